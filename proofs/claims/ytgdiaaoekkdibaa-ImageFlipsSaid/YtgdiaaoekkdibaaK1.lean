/- image.Read: a file of the right length. -/
import Derived.Test.YtgdiaaoekkdibaaK0
import Derived.Test.YtgdiaaoekkdibaaR0
import Derived.Test.YtgdiaaoekkdibaaR2
import Derived.Deep.AppendLies
import Derived.Test.YtgdiaaoekkdibaaI3
import Derived.Test.YtgdiaaoekkdibaaI5
namespace Go.Proofs.Ytgdiaaoekkdibaa
set_option linter.unusedVariables false
set_option linter.unusedSimpArgs false
open Go.RowKit
theorem news_at {W9 V : World} {cs : Array Value} {t : TypeId} (h : Below (W9.alloc (Obj.cells cs t)).heap.size (W9.alloc (Obj.cells cs t)) V) (l : List Value) (hl : cs.toList = l) : ∀ j u, l[j]? = some u → V.cell? ((⟨W9.heap.size, 0, none⟩ : Addr).add j) = some u := by
  intro j u hu
  rw [show (⟨W9.heap.size, 0, none⟩ : Addr).add j = ⟨W9.heap.size, j, none⟩ from by unfold Addr.add; split <;> simp_all]
  refine (made_cells h j u ?_).1
  subst hl
  simpa using hu
theorem byte_at (X : ByteArray) (h : 0 < X.size) : ((X[0]'h).toNat : Int) = byteI X 0 := by
  unfold byteI
  have : X.data.toList[0]? = some (X[0]'h) := by
    rw [List.getElem?_eq_getElem (by simpa using h)]
    rfl
  rw [this]
  rfl
def NewS (x : Value) (E : TypeId) (v : Value) (V : World) : Prop := ∃ W9 : World, v = .slice (some ⟨W9.heap.size, 0, none⟩) 1 1 ∧ V = W9.alloc (Obj.cells #[x] E)
def NewR (b o : Value) (E : TypeId) (v : Value) (V : World) : Prop := ∃ W9 : World, v = .slice (some ⟨W9.heap.size, 0, none⟩) 1 1 ∧ V = W9.alloc (Obj.cells #[b, o] E)
theorem ReadMem.five {w w' : World} {v0 v1 v2 v3 v4 : Value} (h : ReadMem w w' v0 v1 v2 v3 v4) : w'.cell? ⟨w.heap.size, 0, none⟩ = some v0 ∧ w'.cell? ⟨w.heap.size, 1, none⟩ = some v1 ∧ w'.cell? ⟨w.heap.size, 2, none⟩ = some v2 ∧ w'.cell? ⟨w.heap.size, 3, none⟩ = some v3 ∧ w'.cell? ⟨w.heap.size, 4, none⟩ = some v4 := ⟨h.i0, h.i1, h.i2, h.i3, h.i4⟩
theorem readE_sum (s : ByteArray) (h : (headE s).2 = 0) (hz : s.size = stopA s + 2) (hs : wordAt s (stopA s) ≠ sumI (s.extract 0 (stopA s)) (stopA s)) : readE s = ((stopA s : Int), 21) := by
  unfold readE
  rw [if_neg (by rw [h]; simp), if_neg (by omega), if_neg (by omega), if_pos hs]
theorem readE_obj (s : ByteArray) (h : (headE s).2 = 0) (hz : s.size = stopA s + 2) (hs : wordAt s (stopA s) = sumI (s.extract 0 (stopA s)) (stopA s)) (ho : 0 ≤ firstObj (nB s) none (imgOf s).data 0) : readE s = (14 + 5 * firstObj (nB s) none (imgOf s).data 0, 37) := by
  unfold readE
  rw [if_neg (by rw [h]; simp), if_neg (by omega), if_neg (by omega), if_neg (by simp [hs]), if_pos ho]
theorem readE_rel (s : ByteArray) (h : (headE s).2 = 0) (hz : s.size = stopA s + 2) (hs : wordAt s (stopA s) = sumI (s.extract 0 (stopA s)) (stopA s)) (ho : ¬ 0 ≤ firstObj (nB s) none (imgOf s).data 0) (hr : 0 ≤ firstRel (imgOf s).banks (imgOf s).data none (imgOf s).relocs 0) : readE s = (firstA s + 3 * firstRel (imgOf s).banks (imgOf s).data none (imgOf s).relocs 0, 37) := by
  unfold readE
  rw [if_neg (by rw [h]; simp), if_neg (by omega), if_neg (by omega), if_neg (by simp [hs]), if_neg ho, if_pos hr]
theorem readE_ok (s : ByteArray) (h : (headE s).2 = 0) (hz : s.size = stopA s + 2) (hs : wordAt s (stopA s) = sumI (s.extract 0 (stopA s)) (stopA s)) (ho : ¬ 0 ≤ firstObj (nB s) none (imgOf s).data 0) (hr : ¬ 0 ≤ firstRel (imgOf s).banks (imgOf s).data none (imgOf s).relocs 0) : readE s = (0, 0) := by
  unfold readE
  rw [if_neg (by rw [h]; simp), if_neg (by omega), if_neg (by omega), if_neg (by simp [hs]), if_neg ho, if_neg hr]
theorem readI_ok (s : ByteArray) (h : readE s = (0, 0)) : readI s = imgOf s := by unfold readI; rw [h]; rfl
theorem word_drop (s : ByteArray) (a k : Nat) : wordAt (s.extract a s.size) k = wordAt s (a + k) := by
  rw [wordAt_eq, wordAt_eq, byteI_drop, byteI_drop]; rfl
theorem firstObj_bd (banks : Int) : ∀ (l : List ObjI) (p : Option ObjI) (n : Nat), -1 ≤ firstObj banks p l n ∧ firstObj banks p l n < n + l.length
  | [], p, n => by simp [firstObj]; omega
  | o :: l, p, n => by
    have := firstObj_bd banks l (some o) (n + 1)
    simp only [firstObj]
    split
    · simp; omega
    · simp only [List.length_cons]; push_cast at this ⊢; omega
theorem firstRel_bd (banks : List ByteArray) (data : List ObjI) : ∀ (l : List RelI) (p : Option RelI) (n : Nat), -1 ≤ firstRel banks data p l n ∧ firstRel banks data p l n < n + l.length
  | [], p, n => by simp [firstRel]; omega
  | o :: l, p, n => by
    have := firstRel_bd banks data l (some o) (n + 1)
    simp only [firstRel]
    split
    · simp; omega
    · simp only [List.length_cons]; push_cast at this ⊢; omega
theorem setCell_self {w : World} {a : Addr} {v : Value} (h : w.cell? a = some v) : w.setCell a v = w := by
  obtain ⟨heap, tape, drawn, os, output⟩ := w
  unfold World.setCell
  congr 1
  apply Array.ext_getElem?
  intro i
  rw [Array.getElem?_modify]
  by_cases e : a.block = i
  · subst e
    rw [if_pos rfl]
    unfold World.cell? at h
    dsimp only at h ⊢
    generalize heap[a.block]? = x at *
    cases x with
    | none => rfl
    | some o =>
      cases o with
      | cells c t f =>
        simp only at h
        by_cases hs : a.spot.isSome = true
        · rw [if_pos hs] at h; cases h
        · rw [if_neg hs] at h
          simp only [Option.map_some, Option.some.injEq, if_neg hs, Obj.cells.injEq, and_true]
          apply Array.ext_getElem?
          intro j
          rw [Array.getElem?_setIfInBounds]
          by_cases ej : a.off = j
          · subst ej; rw [if_pos rfl, h]; split <;> simp_all
          · rw [if_neg ej]
      | _ => cases h
  · rw [if_neg e]
theorem len_le {k n : Nat} (h : k < n) (hn : n ≤ 512) : k + 1 ≤ maxLen := by unfold maxLen; omega
theorem len_le16 {k n : Nat} (h : k < n) (hn : n ≤ 512) : (k + 1) * 16 ≤ 140737488355328 := by omega
theorem size_set (W : World) (p : Addr) (v : Value) : (W.setCell p v).heap.size = W.heap.size := by simp
theorem bankS_size (s : ByteArray) (n : Nat) : (bankS s n).size ≤ 4096 := by unfold bankS; rw [ByteArray.size_extract]; omega
theorem bankS_full (s : ByteArray) (n : Nat) (h : n < nB s) (hz : stopA s ≤ s.size) : (bankS s n).size = 4096 := by
  have : stopA s = startA s + 4096 * nB s := rfl
  unfold bankS; rw [ByteArray.size_extract]; omega
theorem objAt_ok (s : ByteArray) (n : Nat) : (objAt s n).ok := by
  have h0 := byteI_bd s (14 + 5 * n)
  refine ⟨?_, wordAt_bd _ _, wordAt_bd _ _⟩
  unfold objAt OkI64; dsimp only; split <;> omega
theorem relAt_ok (s : ByteArray) (n : Nat) : (relAt s n).ok := by
  have h0 := byteI_bd s (firstA s + 3 * n)
  refine ⟨?_, wordAt_bd _ _⟩
  unfold relAt OkI64; dsimp only; omega
theorem read_img (s : ByteArray) (w w' : World) (v1 v2 v3 : Value) (hz : stopA s ≤ s.size) (n1 : nO s ≤ 512) (n2 : nR s ≤ 20000) (n4 : nB s ≤ 64) (h : RM w w' (imgOf s) v1 v2 v3) :
    Full (imgOf s).banks ∧ (imgOf s).banks.length = nB s ∧ (imgOf s).data.length = nO s ∧ (imgOf s).relocs.length = nR s ∧ ∃ (p1 : Option Addr) (c1 : Nat) (p2 : Option Addr) (c2 : Nat) (p3 : Option Addr) (c3 : Nat), v1 = .slice p1 (imgOf s).banks.length c1 ∧ v2 = .slice p2 (imgOf s).data.length c2 ∧ v3 = .slice p3 (imgOf s).relocs.length c3 ∧ ImgAt w' p1 p2 p3 (imgOf s) := by
  refine ⟨?_, by simp [imgOf], by simp [imgOf], by simp [imgOf], ?_⟩
  · intro x hx
    simp only [imgOf, List.mem_map, List.mem_range] at hx
    obtain ⟨j, hj, rfl⟩ := hx
    exact bankS_full s j hj hz
  · refine Mk.img (I := imgOf s) h.m ?_ ?_ ?_ (wordAt_bd _ _) (wordAt_bd _ _) (by simp [imgOf]; unfold maxLen; omega) (by simp [imgOf]; unfold maxLen; omega) (by simp [imgOf]; unfold maxLen; omega)
    · intro x hx
      simp only [imgOf, List.mem_map] at hx
      obtain ⟨j, _, rfl⟩ := hx
      have := bankS_size s j
      unfold maxLen; omega
    · intro x hx
      simp only [imgOf, List.mem_map] at hx
      obtain ⟨j, _, rfl⟩ := hx
      exact objAt_ok s j
    · intro x hx
      simp only [imgOf, List.mem_map] at hx
      obtain ⟨j, _, rfl⟩ := hx
      exact relAt_ok s j
set_option maxRecDepth 8000 in
set_option maxHeartbeats 16000000 in
theorem readC_any (s : ByteArray) (w : World) (hs : s.size ≤ maxLen) (hok : (headE s).2 = 0) (hz : s.size = stopA s + 2) (R : Ending → World → Prop) (HR : Hid (∀ e w', ReadPost s w e w' → R e w')) :
    Calls Try.prog 25 #[.string s] w R := by
  have hmf : ∀ (fn : Fn) (first cap : Array Value) (w : World), (Instr.makeFunc fn first cap).run Try.prog w = .ok (.func fn first cap) w := fun _ _ _ _ => rfl
  obtain ⟨i9, hi9, hz9, hs9, hb9⟩ := info_parts infoStr
  obtain ⟨i39, hi39, hz39, hs39, hb39⟩ := info_parts infoObj
  obtain ⟨i41, hi41, hz41, hs41, hb41⟩ := info_parts infoRel
  have HI9 := Lib.hid (And.intro hi9 (And.intro hz9 (And.intro hs9 hb9)))
  have HI39 := Lib.hid (And.intro hi39 (And.intro hz39 (And.intro hs39 hb39)))
  have HI41 := Lib.hid (And.intro hi41 (And.intro hz41 (And.intro hs41 hb41)))
  clear hi9 hz9 hs9 hb9 hi39 hz39 hs39 hb39 hi41 hz41 hs41 hb41
  have HS := Lib.hid hs
  unfold maxLen at hs
  obtain ⟨h14, _, b0, b1, o1, r1, e6, e8⟩ := headE_ok s hok
  have h10 : wordAt s 10 = (nO s : Int) := (nO_cast s).symm
  have h12 : wordAt s 12 = (nR s : Int) := (nR_cast s).symm
  have h4 : wordAt s 4 = (nB s : Int) := (nB_cast s).symm
  have n1 : nO s ≤ 512 := by omega
  have n2 : nR s ≤ 20000 := by omega
  have n3 : 1 ≤ nB s := by omega
  have n4 : nB s ≤ 64 := by omega
  have hF : 14 + 5 * (nO s : Int) = (firstA s : Int) := by unfold firstA; omega
  have hS0 : (firstA s : Int) + 3 * (nR s : Int) = (startA s : Int) := by unfold startA; omega
  have hT : (startA s : Int) + 4096 * (nB s : Int) = (stopA s : Int) := by unfold stopA; omega
  have dF : firstA s = 14 + 5 * nO s := rfl
  have dS : startA s = firstA s + 3 * nR s := rfl
  have dT : stopA s = startA s + 4096 * nB s := rfl
  have m1 : firstA s ≤ 2574 := by omega
  have m2 : startA s ≤ 62574 := by omega
  have m3 : stopA s ≤ 324718 := by omega
  have KD := Lib.hid (And.intro dF (And.intro dS dT))
  clear dF dS dT
  have HK := Lib.hid hok
  have HZ := Lib.hid hz
  have hz1 : stopA s + 2 ≤ s.size := by omega
  have hz2 : s.size ≤ 324720 := by omega
  have hzb : ((s.size : Int) == (stopA s : Int) + 2) = true := by rw [hz]; simp
  have KQ := Lib.hid (readW_cells w)
  have W6 := wordAt_bd s 6
  have W8 := wordAt_bd s 8
  clear hok hz b0 b1 o1 r1 e6 e8
  go_enter_defers Try.func25, Try.ntmps25
  go_wp2_with fail
  have hA := readMem_start w
  refine (head_any s _ HS.out).mono ?_
  rintro e w1 ⟨hB, ⟨hne, rfl⟩ | ⟨h0, rfl⟩⟩
  · exact absurd HK.out hne
  have hA1 := hA.next hB
  have hRM : RM w (((((w1.setCell ⟨w.heap.size, 0, none⟩ (.slice none 0 0)).setCell ⟨w.heap.size, 1, none⟩ (.int .u16 (wordAt s 6))).setCell ⟨w.heap.size, 2, none⟩ (.int .u16 (wordAt s 8))).setCell ⟨w.heap.size, 3, none⟩ (.slice none 0 0)).setCell ⟨w.heap.size, 4, none⟩ (.slice none 0 0)) ⟨[], wordAt s 6, wordAt s 8, [], []⟩ (.slice none 0 0) (.slice none 0 0) (.slice none 0 0) := by
    have hsz := (readMem_start w).size
    refine rm_start w _ _ _ (hA1.set (.slice none 0 0) (.int .u16 (wordAt s 6)) (.int .u16 (wordAt s 8)) (.slice none 0 0) (.slice none 0 0)) ?_ ?_
    · have : ∀ (W : World) (k : Nat) (v : Value), (W.setCell ⟨w.heap.size, k, none⟩ v).heap[w.heap.size + 1]? = W.heap[w.heap.size + 1]? := fun W k v => Below.heap_setCell _ _ _ _ (by simp)
      rw [this, this, this, this, this, hB.block _ (by unfold readW at hsz; omega)]
      exact KQ.out.1
    · have : ∀ (W : World) (k : Nat) (v : Value), (W.setCell ⟨w.heap.size, k, none⟩ v).heap[w.heap.size + 2]? = W.heap[w.heap.size + 2]? := fun W k v => Below.heap_setCell _ _ _ _ (by simp)
      rw [this, this, this, this, this, hB.block _ (by unfold readW at hsz; omega)]
      exact KQ.out.2
  have KM0 := Lib.hid hRM
  obtain ⟨i0, i1, i2, i3, i4, _, _, f0, f1, f2, f3, f4, _, _, _, _⟩ := hA1
  clear hA hB h0 hRM
  go_wp2_with fail
  refine (need_yes _ _ _ _ ?_).mono ?_
  · first | with_reducible rfl | exact decide_eq_true (by omega)
  rintro e w' ⟨rfl, rfl⟩
  go_wp2_with fail
  refine (need_yes _ _ _ _ ?_).mono ?_
  · first | with_reducible rfl | exact hzb
  rintro e w' ⟨rfl, rfl⟩
  go_wp2_with fail
  clear i0 i1 i2 i3 i4 f0 f1 f2 f3 f4 hzb
  generalize ((((w1.setCell ⟨w.heap.size, 0, none⟩ (.slice none 0 0)).setCell ⟨w.heap.size, 1, none⟩ (.int .u16 (wordAt s 6))).setCell ⟨w.heap.size, 2, none⟩ (.int .u16 (wordAt s 8))).setCell ⟨w.heap.size, 3, none⟩ (.slice none 0 0)).setCell ⟨w.heap.size, 4, none⟩ (.slice none 0 0) = WA at *
  have tT0 : (0 : Int) ≤ (stopA s : Int) := by omega
  have tT1 : (stopA s : Int) ≤ (s.size : Int) := by omega
  have cGet : Hid (∀ V : World, Calls Try.prog 62 #[.string (s.extract (stopA s) s.size)] V fun e w' => e = .returned (.int .u16 (wordAt s (stopA s))) ∧ Below V.heap.size V w') := Lib.hid fun V => get_any _ V (by rw [ByteArray.size_extract]; unfold maxLen; omega)
  have cSum : Hid (∀ V : World, Calls Try.prog 54 #[.string (s.extract 0 (stopA s))] V fun e w' => e = .returned (.int .u16 (sumI (s.extract 0 (stopA s)) (stopA s))) ∧ Below V.heap.size V w') := Lib.hid fun V => by
    have hsz : (s.extract 0 (stopA s)).size = stopA s := by rw [ByteArray.size_extract]; omega
    have := sum_any (s.extract 0 (stopA s)) V (by rw [hsz]; unfold maxLen; omega)
    rwa [hsz] at this
  rcases (Bool.eq_false_or_eq_true (wordAt s (stopA s) == sumI (s.extract 0 (stopA s)) (stopA s))).symm with hsb | hsb
  · have HE := Lib.hid (readE_sum s HK.out HZ.out (by simpa using hsb))
    refine' wp_region_flowR [[], [], [(54, 0), (55, 1)], [(56, 2)], [], [], [(58, 4), (59, 5)], [(60, 6)], [(57, 3), (61, 7)], [], [(54, 0), (55, 1), (56, 2), (57, 3), (58, 4), (59, 5), (60, 6), (61, 7), (62, 8), (63, 9)]] (relL [eqV _, eqV _, eqV _, eqV _, eqV _, eqV _, eqV _, eqV _, eqV _, eqV _, fun v V => True]) (by kernel_rfl) (by kernel_rfl) ?_
    rotate_left 10
    refine FlowR.step ?_ ?_
    · intro V hV
      simp only [Dep, Act.put, List.setIfInBounds_toArray, List.set_cons_zero, List.set_cons_succ]
      intro K hK
      go_simp
      refine hK _ _ ?_ (Below.refl _ _)
      simp only [relL, List.getElem?_cons_zero, List.getElem?_cons_succ, eqV]
      exact rfl
    refine FlowR.step ?_ ?_
    · intro V hV
      simp only [Dep, Act.put, List.setIfInBounds_toArray, List.set_cons_zero, List.set_cons_succ]
      intro K hK
      go_simp
      refine hK _ _ ?_ (Below.refl _ _)
      simp only [relL, List.getElem?_cons_zero, List.getElem?_cons_succ, eqV]
      exact rfl
    refine FlowR.step ?_ ?_
    · intro V hV
      simp only [Dep, Act.put, List.setIfInBounds_toArray, List.set_cons_zero, List.set_cons_succ]
      rintro x54 ⟨V54, rfl, hb54⟩
      rintro x55 ⟨V55, rfl, hb55⟩
      intro K hK
      go_simp
      refine hK _ _ ?_ (Below.refl _ _)
      simp only [relL, List.getElem?_cons_zero, List.getElem?_cons_succ, eqV]
      exact rfl
    refine FlowR.step ?_ ?_
    · intro V hV
      simp only [Dep, Act.put, List.setIfInBounds_toArray, List.set_cons_zero, List.set_cons_succ]
      rintro x56 ⟨V56, rfl, hb56⟩
      intro K hK
      go_simp
      go_at_call 62
      refine (cGet.out V).mono ?_
      rintro e w9 ⟨rfl, h9⟩
      refine hK _ _ ?_ h9
      simp only [relL, List.getElem?_cons_zero, List.getElem?_cons_succ, eqV]
      exact rfl
    refine FlowR.step ?_ ?_
    · intro V hV
      simp only [Dep, Act.put, List.setIfInBounds_toArray, List.set_cons_zero, List.set_cons_succ]
      intro K hK
      go_simp
      refine hK _ _ ?_ (Below.refl _ _)
      simp only [relL, List.getElem?_cons_zero, List.getElem?_cons_succ, eqV]
      exact rfl
    refine FlowR.step ?_ ?_
    · intro V hV
      simp only [Dep, Act.put, List.setIfInBounds_toArray, List.set_cons_zero, List.set_cons_succ]
      intro K hK
      go_simp
      refine hK _ _ ?_ (Below.refl _ _)
      simp only [relL, List.getElem?_cons_zero, List.getElem?_cons_succ, eqV]
      exact rfl
    refine FlowR.step ?_ ?_
    · intro V hV
      simp only [Dep, Act.put, List.setIfInBounds_toArray, List.set_cons_zero, List.set_cons_succ]
      rintro x58 ⟨V58, rfl, hb58⟩
      rintro x59 ⟨V59, rfl, hb59⟩
      intro K hK
      go_simp
      refine hK _ _ ?_ (Below.refl _ _)
      simp only [relL, List.getElem?_cons_zero, List.getElem?_cons_succ, eqV]
      exact rfl
    refine FlowR.step ?_ ?_
    · intro V hV
      simp only [Dep, Act.put, List.setIfInBounds_toArray, List.set_cons_zero, List.set_cons_succ]
      rintro x60 ⟨V60, rfl, hb60⟩
      intro K hK
      go_simp
      go_at_call 54
      refine (cSum.out V).mono ?_
      rintro e w9 ⟨rfl, h9⟩
      refine hK _ _ ?_ h9
      simp only [relL, List.getElem?_cons_zero, List.getElem?_cons_succ, eqV]
      exact rfl
    refine FlowR.step ?_ ?_
    · intro V hV
      simp only [Dep, Act.put, List.setIfInBounds_toArray, List.set_cons_zero, List.set_cons_succ]
      rintro x57 ⟨V57, rfl, hb57⟩
      rintro x61 ⟨V61, rfl, hb61⟩
      intro K hK
      go_simp
      refine hK _ _ ?_ (Below.refl _ _)
      simp only [relL, List.getElem?_cons_zero, List.getElem?_cons_succ, eqV]
      exact rfl
    refine FlowR.step ?_ ?_
    · intro V hV
      simp only [Dep, Act.put, List.setIfInBounds_toArray, List.set_cons_zero, List.set_cons_succ]
      intro K hK
      go_simp
      refine hK _ _ ?_ (Below.refl _ _)
      simp only [relL, List.getElem?_cons_zero, List.getElem?_cons_succ, eqV]
      exact rfl
    refine FlowR.last ?_
    intro V hV
    simp only [Dep, Act.put, List.setIfInBounds_toArray, List.set_cons_zero, List.set_cons_succ]
    rintro x54 ⟨V54, rfl, hb54⟩
    rintro x55 ⟨V55, rfl, hb55⟩
    rintro x56 ⟨V56, rfl, hb56⟩
    rintro x57 ⟨V57, rfl, hb57⟩
    rintro x58 ⟨V58, rfl, hb58⟩
    rintro x59 ⟨V59, rfl, hb59⟩
    rintro x60 ⟨V60, rfl, hb60⟩
    rintro x61 ⟨V61, rfl, hb61⟩
    rintro x62 ⟨V62, rfl, hb62⟩
    rintro x63 ⟨V63, rfl, hb63⟩
    intro K hK
    go_simp
    go_at_call 61
    refine (need_no _ _ _ _ rfl).mono ?_
    rintro e w' ⟨rfl, rfl⟩
    exact leaves_caught (KM0.out.next hV).read rfl rfl rfl (fun W hW => HR.out _ _ (readPost_bad HE.out (by decide) hW))
  refine' wp_region_flowR [[], [], [(54, 0), (55, 1)], [(56, 2)], [], [], [(58, 4), (59, 5)], [(60, 6)], [(57, 3), (61, 7)], [], [(54, 0), (55, 1), (56, 2), (57, 3), (58, 4), (59, 5), (60, 6), (61, 7), (62, 8), (63, 9)]] (relL [eqV _, eqV _, eqV _, eqV _, eqV _, eqV _, eqV _, eqV _, eqV _, eqV _, fun v V => True]) (by kernel_rfl) (by kernel_rfl) ?_
  rotate_left 10
  refine FlowR.step ?_ ?_
  · intro V hV
    simp only [Dep, Act.put, List.setIfInBounds_toArray, List.set_cons_zero, List.set_cons_succ]
    intro K hK
    go_simp
    refine hK _ _ ?_ (Below.refl _ _)
    simp only [relL, List.getElem?_cons_zero, List.getElem?_cons_succ, eqV]
    exact rfl
  refine FlowR.step ?_ ?_
  · intro V hV
    simp only [Dep, Act.put, List.setIfInBounds_toArray, List.set_cons_zero, List.set_cons_succ]
    intro K hK
    go_simp
    refine hK _ _ ?_ (Below.refl _ _)
    simp only [relL, List.getElem?_cons_zero, List.getElem?_cons_succ, eqV]
    exact rfl
  refine FlowR.step ?_ ?_
  · intro V hV
    simp only [Dep, Act.put, List.setIfInBounds_toArray, List.set_cons_zero, List.set_cons_succ]
    rintro x54 ⟨V54, rfl, hb54⟩
    rintro x55 ⟨V55, rfl, hb55⟩
    intro K hK
    go_simp
    refine hK _ _ ?_ (Below.refl _ _)
    simp only [relL, List.getElem?_cons_zero, List.getElem?_cons_succ, eqV]
    exact rfl
  refine FlowR.step ?_ ?_
  · intro V hV
    simp only [Dep, Act.put, List.setIfInBounds_toArray, List.set_cons_zero, List.set_cons_succ]
    rintro x56 ⟨V56, rfl, hb56⟩
    intro K hK
    go_simp
    go_at_call 62
    refine (cGet.out V).mono ?_
    rintro e w9 ⟨rfl, h9⟩
    refine hK _ _ ?_ h9
    simp only [relL, List.getElem?_cons_zero, List.getElem?_cons_succ, eqV]
    exact rfl
  refine FlowR.step ?_ ?_
  · intro V hV
    simp only [Dep, Act.put, List.setIfInBounds_toArray, List.set_cons_zero, List.set_cons_succ]
    intro K hK
    go_simp
    refine hK _ _ ?_ (Below.refl _ _)
    simp only [relL, List.getElem?_cons_zero, List.getElem?_cons_succ, eqV]
    exact rfl
  refine FlowR.step ?_ ?_
  · intro V hV
    simp only [Dep, Act.put, List.setIfInBounds_toArray, List.set_cons_zero, List.set_cons_succ]
    intro K hK
    go_simp
    refine hK _ _ ?_ (Below.refl _ _)
    simp only [relL, List.getElem?_cons_zero, List.getElem?_cons_succ, eqV]
    exact rfl
  refine FlowR.step ?_ ?_
  · intro V hV
    simp only [Dep, Act.put, List.setIfInBounds_toArray, List.set_cons_zero, List.set_cons_succ]
    rintro x58 ⟨V58, rfl, hb58⟩
    rintro x59 ⟨V59, rfl, hb59⟩
    intro K hK
    go_simp
    refine hK _ _ ?_ (Below.refl _ _)
    simp only [relL, List.getElem?_cons_zero, List.getElem?_cons_succ, eqV]
    exact rfl
  refine FlowR.step ?_ ?_
  · intro V hV
    simp only [Dep, Act.put, List.setIfInBounds_toArray, List.set_cons_zero, List.set_cons_succ]
    rintro x60 ⟨V60, rfl, hb60⟩
    intro K hK
    go_simp
    go_at_call 54
    refine (cSum.out V).mono ?_
    rintro e w9 ⟨rfl, h9⟩
    refine hK _ _ ?_ h9
    simp only [relL, List.getElem?_cons_zero, List.getElem?_cons_succ, eqV]
    exact rfl
  refine FlowR.step ?_ ?_
  · intro V hV
    simp only [Dep, Act.put, List.setIfInBounds_toArray, List.set_cons_zero, List.set_cons_succ]
    rintro x57 ⟨V57, rfl, hb57⟩
    rintro x61 ⟨V61, rfl, hb61⟩
    intro K hK
    go_simp
    refine hK _ _ ?_ (Below.refl _ _)
    simp only [relL, List.getElem?_cons_zero, List.getElem?_cons_succ, eqV]
    exact rfl
  refine FlowR.step ?_ ?_
  · intro V hV
    simp only [Dep, Act.put, List.setIfInBounds_toArray, List.set_cons_zero, List.set_cons_succ]
    intro K hK
    go_simp
    refine hK _ _ ?_ (Below.refl _ _)
    simp only [relL, List.getElem?_cons_zero, List.getElem?_cons_succ, eqV]
    exact rfl
  refine FlowR.last ?_
  intro V hV
  simp only [Dep, Act.put, List.setIfInBounds_toArray, List.set_cons_zero, List.set_cons_succ]
  rintro x54 ⟨V54, rfl, hb54⟩
  rintro x55 ⟨V55, rfl, hb55⟩
  rintro x56 ⟨V56, rfl, hb56⟩
  rintro x57 ⟨V57, rfl, hb57⟩
  rintro x58 ⟨V58, rfl, hb58⟩
  rintro x59 ⟨V59, rfl, hb59⟩
  rintro x60 ⟨V60, rfl, hb60⟩
  rintro x61 ⟨V61, rfl, hb61⟩
  rintro x62 ⟨V62, rfl, hb62⟩
  rintro x63 ⟨V63, rfl, hb63⟩
  intro K hK
  go_simp
  go_at_call 61
  refine (need_yes _ _ _ _ rfl).mono ?_
  rintro e w' ⟨rfl, rfl⟩
  refine hK _ _ ?_
  clear hK K
  have KM := Lib.hid (KM0.out.next hV)
  have HSB := Lib.hid hsb
  clear hV KM0 hsb tT0 tT1 cGet cSum hb54 V54 hb55 V55 hb56 V56 hb57 V57 hb58 V58 hb59 V59 hb60 V60 hb61 V61 hb62 V62 hb63 V63
  go_wp2_with fail
  go_loopw [66] (fun i wr => ∃ (k : Nat) (v1 : Value), k ≤ nB s ∧ i = .int .i64 k ∧ RM w wr ⟨(List.range k).map (bankS s), wordAt s 6, wordAt s 8, [], []⟩ v1 (.slice none 0 0) (.slice none 0 0)) (fun i _ => nB s - (intOf i).toNat)
  case atStart => exact ⟨0, .slice none 0 0, Nat.zero_le _, rfl, KM.out⟩
  case round =>
    clear KM
    obtain ⟨k, v1, hk, rfl, hm⟩ := hrel
    have KM := Lib.hid hm
    clear hm
    by_cases hlt : k < nB s
    · have hltI : (k : Int) < (nB s : Int) := by omega
      obtain ⟨q1, e1, rfl, hq1⟩ := own_slice KM.out.m.o1
      clear hq1
      simp only [List.length_map, List.length_range] at KM
      have hd := KD.out.2.2
      have x0 : IntKind.i64.wrap ((k : Int) * 4096) = (k : Int) * 4096 := IntWalk.i64_in _ (by omega)
      have x1 : IntKind.i64.wrap ((startA s : Int) + (k : Int) * 4096) = (startA s : Int) + (k : Int) * 4096 := IntWalk.i64_in _ (by omega)
      have x2 : IntKind.i64.wrap ((k : Int) + 1) = (k : Int) + 1 := IntWalk.i64_in _ (by omega)
      have x3 : IntKind.i64.wrap (((k : Int) + 1) * 4096) = ((k : Int) + 1) * 4096 := IntWalk.i64_in _ (by omega)
      have x4 : IntKind.i64.wrap ((startA s : Int) + ((k : Int) + 1) * 4096) = (startA s : Int) + ((k : Int) + 1) * 4096 := IntWalk.i64_in _ (by omega)
      have x5 : (0 : Int) ≤ (startA s : Int) + (k : Int) * 4096 := by omega
      have x6 : (startA s : Int) + (k : Int) * 4096 ≤ (startA s : Int) + ((k : Int) + 1) * 4096 := by omega
      have x7 : (startA s : Int) + ((k : Int) + 1) * 4096 ≤ (s.size : Int) := by omega
      have x8 : ((startA s : Int) + (k : Int) * 4096).toNat = startA s + k * 4096 := by omega
      have x9 : ((startA s : Int) + ((k : Int) + 1) * 4096).toNat = startA s + (k + 1) * 4096 := by omega
      clear hd
      go_wp2_with fail
      refine' wp_region_flowS 14 [14, 16] [[], [(69, 0)], [], [], [], [(73, 4)], [(72, 3), (74, 5)], [], [], [(77, 8)], [(78, 9)], [(76, 7), (79, 10)], [(71, 2), (75, 6), (80, 11)], [(81, 12)], [(70, 1), (82, 13)], [], [(84, 15), (83, 14)]] [(69, 0), (70, 1), (71, 2), (72, 3), (73, 4), (74, 5), (75, 6), (76, 7), (77, 8), (78, 9), (79, 10), (80, 11), (81, 12), (82, 13), (84, 15)] (relL [eqV _, eqV _, eqV _, eqV _, eqV _, eqV _, eqV _, eqV _, eqV _, eqV _, eqV _, eqV _, eqV _, NewS (.string (s.extract (startA s + k * 4096) (startA s + (k + 1) * 4096))) 9, fun v V => True, eqV _, fun v V => True]) [(14, _), (16, _)] (by kernel_rfl) (by kernel_rfl) rfl ?_ ?_
      rotate_left 14
      · refine FlowS.mem (by decide) ?_ ?_
        · intro V hV
          simp only [Dep, Act.put, List.setIfInBounds_toArray, List.set_cons_zero, List.set_cons_succ]
          intro K hK
          go_simp
          refine hK _ _ ?_ (Below.refl _ _)
          simp only [relL, eqV]
          exact rfl
        refine FlowS.mem (by decide) ?_ ?_
        · intro V hV
          simp only [Dep, Act.put, List.setIfInBounds_toArray, List.set_cons_zero, List.set_cons_succ]
          rintro x69 ⟨V69, rfl, hb69⟩
          intro K hK
          have i0 := (KM.out.next hV).m.i0
          go_simp
          refine hK _ _ ?_ (Below.refl _ _)
          simp only [relL, eqV]
          exact rfl
        refine FlowS.mem (by decide) ?_ ?_
        · intro V hV
          simp only [Dep, Act.put, List.setIfInBounds_toArray, List.set_cons_zero, List.set_cons_succ]
          intro K hK
          go_simp
          refine hK _ _ ?_ (Below.refl _ _)
          simp only [relL, eqV]
          exact rfl
        refine FlowS.mem (by decide) ?_ ?_
        · intro V hV
          simp only [Dep, Act.put, List.setIfInBounds_toArray, List.set_cons_zero, List.set_cons_succ]
          intro K hK
          go_simp
          refine hK _ _ ?_ (Below.refl _ _)
          simp only [relL, eqV]
          exact rfl
        refine FlowS.mem (by decide) ?_ ?_
        · intro V hV
          simp only [Dep, Act.put, List.setIfInBounds_toArray, List.set_cons_zero, List.set_cons_succ]
          intro K hK
          go_simp
          refine hK _ _ ?_ (Below.refl _ _)
          simp only [relL, eqV]
          exact rfl
        refine FlowS.mem (by decide) ?_ ?_
        · intro V hV
          simp only [Dep, Act.put, List.setIfInBounds_toArray, List.set_cons_zero, List.set_cons_succ]
          rintro x73 ⟨V73, rfl, hb73⟩
          intro K hK
          go_simp
          refine hK _ _ ?_ (Below.refl _ _)
          simp only [relL, eqV]
          exact rfl
        refine FlowS.mem (by decide) ?_ ?_
        · intro V hV
          simp only [Dep, Act.put, List.setIfInBounds_toArray, List.set_cons_zero, List.set_cons_succ]
          rintro x72 ⟨V72, rfl, hb72⟩
          rintro x74 ⟨V74, rfl, hb74⟩
          intro K hK
          go_simp
          refine hK _ _ ?_ (Below.refl _ _)
          simp only [relL, eqV]
          exact rfl
        refine FlowS.mem (by decide) ?_ ?_
        · intro V hV
          simp only [Dep, Act.put, List.setIfInBounds_toArray, List.set_cons_zero, List.set_cons_succ]
          intro K hK
          go_simp
          refine hK _ _ ?_ (Below.refl _ _)
          simp only [relL, eqV]
          exact rfl
        refine FlowS.mem (by decide) ?_ ?_
        · intro V hV
          simp only [Dep, Act.put, List.setIfInBounds_toArray, List.set_cons_zero, List.set_cons_succ]
          intro K hK
          go_simp
          refine hK _ _ ?_ (Below.refl _ _)
          simp only [relL, eqV]
          exact rfl
        refine FlowS.mem (by decide) ?_ ?_
        · intro V hV
          simp only [Dep, Act.put, List.setIfInBounds_toArray, List.set_cons_zero, List.set_cons_succ]
          rintro x77 ⟨V77, rfl, hb77⟩
          intro K hK
          go_simp
          refine hK _ _ ?_ (Below.refl _ _)
          simp only [relL, eqV]
          exact rfl
        refine FlowS.mem (by decide) ?_ ?_
        · intro V hV
          simp only [Dep, Act.put, List.setIfInBounds_toArray, List.set_cons_zero, List.set_cons_succ]
          rintro x78 ⟨V78, rfl, hb78⟩
          intro K hK
          go_simp
          refine hK _ _ ?_ (Below.refl _ _)
          simp only [relL, eqV]
          exact rfl
        refine FlowS.mem (by decide) ?_ ?_
        · intro V hV
          simp only [Dep, Act.put, List.setIfInBounds_toArray, List.set_cons_zero, List.set_cons_succ]
          rintro x76 ⟨V76, rfl, hb76⟩
          rintro x79 ⟨V79, rfl, hb79⟩
          intro K hK
          go_simp
          refine hK _ _ ?_ (Below.refl _ _)
          simp only [relL, eqV]
          exact rfl
        refine FlowS.mem (by decide) ?_ ?_
        · intro V hV
          simp only [Dep, Act.put, List.setIfInBounds_toArray, List.set_cons_zero, List.set_cons_succ]
          rintro x71 ⟨V71, rfl, hb71⟩
          rintro x75 ⟨V75, rfl, hb75⟩
          rintro x80 ⟨V80, rfl, hb80⟩
          intro K hK
          go_simp
          refine hK _ _ ?_ (Below.refl _ _)
          simp only [relL, eqV]
          exact rfl
        refine FlowS.mem (by decide) ?_ ?_
        · intro V hV
          simp only [Dep, Act.put, List.setIfInBounds_toArray, List.set_cons_zero, List.set_cons_succ]
          rintro x81 ⟨V81, rfl, hb81⟩
          intro K hK
          go_simp
          exact hK _ _ ⟨V, rfl, rfl⟩ (below1 _ _)
        refine FlowS.store (by decide) rfl ?_
        refine FlowS.val (by decide) _ (fun _ _ => Iff.rfl) ?_ ?_
        · simp only [DepP, Act.put, List.setIfInBounds_toArray, List.set_cons_zero, List.set_cons_succ]
          intro V K hK
          go_simp
          exact hK
        refine FlowS.store (by decide) rfl ?_
        exact FlowS.nil
      · intro V hV
        simp only [Dep, Act.put, List.setIfInBounds_toArray, List.set_cons_zero, List.set_cons_succ]
        rintro x69 ⟨V69, rfl, hb69⟩
        rintro x70 ⟨V70, rfl, hb70⟩
        rintro x71 ⟨V71, rfl, hb71⟩
        rintro x72 ⟨V72, rfl, hb72⟩
        rintro x73 ⟨V73, rfl, hb73⟩
        rintro x74 ⟨V74, rfl, hb74⟩
        rintro x75 ⟨V75, rfl, hb75⟩
        rintro x76 ⟨V76, rfl, hb76⟩
        rintro x77 ⟨V77, rfl, hb77⟩
        rintro x78 ⟨V78, rfl, hb78⟩
        rintro x79 ⟨V79, rfl, hb79⟩
        rintro x80 ⟨V80, rfl, hb80⟩
        rintro x81 ⟨V81, rfl, hb81⟩
        rintro x82 ⟨V82, ⟨W9, rfl, rfl⟩, hb82⟩
        rintro x84 ⟨V84, rfl, hb84⟩
        have HM := Lib.hid (KM.out.next hV)
        have i0 := HM.out.m.i0
        intro K1 hK1
        obtain ⟨hi9, hz9, hs9, hb9⟩ := HI9.out
        refine (if_pos (by rfl)).mpr ?_
        refine wp_append_lies _ _ _ _ rfl (w.heap.size + 1) 9 i9 (.string ByteArray.empty) 1 16 Try.underlying25 hi9 hz9 hs9 hb9 rfl (by decide) _ _ _ rfl HM.out.m.o1 ⟨W9.heap.size, 0, none⟩ 1 1 [.string (s.extract (startA s + k * 4096) (startA s + (k + 1) * 4096))] rfl rfl (news_at hb82 _ rfl) (one_str _) (by decide) (by simp; unfold maxLen; omega) (by simp; omega) (by have := HM.out.size; omega) _ rfl ?_
        intro g cap w3 hown hg _ _
        refine hK1 _ _ ?_
        simp only [Act.put, List.setIfInBounds_toArray, List.set_cons_zero, List.set_cons_succ, List.length_map, List.length_range]
        rw [show s.extract (startA s + k * 4096) (startA s + (k + 1) * 4096) = bankS s k from rfl] at hown
        clear hK1 K1 hi9 hz9 hs9 hb9 i0
        have hm3 := HM.out.m.push1 (bankS s k) (by simpa using hown) hg
        have HP := Lib.hid (HM.out.grow (k := 0) HM.out.m.o1 (by decide) (by decide) (Nat.le_refl _) hg hm3)
        have hb3 : Below (w.heap.size + 1) V w3 := (Below.refl _ _).grown hg (by have := HM.out.size; omega) (fun j e => (HM.out.m.o1.lt j e).1)
        have i0 := (hb3.cell (p := ⟨w.heap.size, 0, none⟩) (Nat.lt_succ_self _)).trans HM.out.m.i0
        have f0 := (hb3.frozen (p := ⟨w.heap.size, 0, none⟩) (Nat.lt_succ_self _)).trans HM.out.m.f0
        clear hm3 hb3 hown hg HM
        intro K1 hK1
        go_simp
        refine hK1 undef _ ?_
        clear hK1 K1 i0 f0
        unfold TailS
        go_wp2_with fail
        go_roundw
        case rel =>
          refine ⟨k + 1, .slice (some ⟨g, 0, none⟩) (k + 1) cap, by omega, by go_num, ?_⟩
          rw [range_map_succ]
          have hp := HP.out
          simp only [List.length_map, List.length_range] at hp
          exact hp
        case measure => simp [intOf]; omega
    · obtain rfl : k = nB s := by omega
      go_wp2_with fail
      obtain ⟨wo, rfl⟩ : ∃ wo : World, wo = wr := ⟨_, rfl⟩
      go_loopw [87] (fun i wx => ∃ (k : Nat) (v2 : Value), k ≤ nO s ∧ i = .int .i64 k ∧ RM w wx ⟨(List.range (nB s)).map (bankS s), wordAt s 6, wordAt s 8, (List.range k).map (objAt s), []⟩ v1 v2 (.slice none 0 0)) (fun i _ => nO s - (intOf i).toNat)
      case atStart => exact ⟨0, .slice none 0 0, Nat.zero_le _, rfl, KM.out⟩
      case round =>
        clear KM
        obtain ⟨k, v2, hk, rfl, hm⟩ := hrel
        have KM := Lib.hid hm
        clear hm
        by_cases hlt : k < nO s
        · have hltI : (k : Int) < (nO s : Int) := by omega
          obtain ⟨q2, e2, rfl, hq2⟩ := own_slice KM.out.m.o2
          clear hq2
          simp only [List.length_map, List.length_range] at KM
          have hd := KD.out
          have x0 : IntKind.i64.wrap (5 * (k : Int)) = 5 * (k : Int) := IntWalk.i64_in _ (by omega)
          have x1 : IntKind.i64.wrap (14 + 5 * (k : Int)) = 14 + 5 * (k : Int) := IntWalk.i64_in _ (by omega)
          have x5 : (0 : Int) ≤ 14 + 5 * (k : Int) := by omega
          have x6 : 14 + 5 * (k : Int) ≤ (s.size : Int) := by omega
          have x8 : (14 + 5 * (k : Int)).toNat = 14 + 5 * k := by omega
          have x9 : 14 + 5 * k + 5 ≤ s.size := by omega
          clear hd
          go_wp2_with fail
          have KX : Hid (byteI (s.extract (14 + 5 * k) s.size) 0 = byteI s (14 + 5 * k) ∧ getI ((s.extract (14 + 5 * k) s.size).extract 1 (s.extract (14 + 5 * k) s.size).size) = wordAt s (14 + 5 * k + 1) ∧ getI ((s.extract (14 + 5 * k) s.size).extract 3 (s.extract (14 + 5 * k) s.size).size) = wordAt s (14 + 5 * k + 3)) := ⟨byteI_drop s _ 0, word_drop s _ 1, word_drop s _ 3⟩
          have hXs : (s.extract (14 + 5 * k) s.size).size = s.size - (14 + 5 * k) := by rw [ByteArray.size_extract]; omega
          generalize s.extract (14 + 5 * k) s.size = X at *
          have hX5 : 5 ≤ X.size := by omega
          have hXm : X.size ≤ 324720 := by omega
          have y0 : (0 : Int) < (X.size : Int) := by omega
          have y0n : 0 < X.size := by omega
          have y1 : (1 : Int) ≤ (X.size : Int) := by omega
          have y3 : (3 : Int) ≤ (X.size : Int) := by omega
          have bb := byteI_bd X 0
          have hx0a : ((X[0]'y0n).toNat : Int) = byteI X 0 := byte_at X y0n
          have hx0 : IntKind.i64.wrap (byteI X 0) = byteI X 0 := IntWalk.i64_in _ (by omega)
          generalize byteI X 0 = bz at *
          obtain ⟨c1, hc1⟩ : ∃ c, c = getI (X.extract 1 X.size) := ⟨_, rfl⟩
          obtain ⟨c3, hc3⟩ : ∃ c, c = getI (X.extract 3 X.size) := ⟨_, rfl⟩
          have cG1 : Hid (∀ V : World, Calls Try.prog 62 #[.string (X.extract 1 X.size)] V fun e w' => e = .returned (.int .u16 c1) ∧ Below V.heap.size V w') := Lib.hid fun V => by rw [hc1]; exact get_any _ V (by rw [ByteArray.size_extract]; unfold maxLen; omega)
          have cG3 : Hid (∀ V : World, Calls Try.prog 62 #[.string (X.extract 3 X.size)] V fun e w' => e = .returned (.int .u16 c3) ∧ Below V.heap.size V w') := Lib.hid fun V => by rw [hc3]; exact get_any _ V (by rw [ByteArray.size_extract]; unfold maxLen; omega)
          rw [← hc1, ← hc3] at KX
          have KC1 : Hid (OkU16 c1 ∧ OkU16 c3) := Lib.hid (by rw [hc1, hc3]; exact ⟨getI_bd _, getI_bd _⟩)
          clear hc1 hc3
          clear x0 x1 x5 x6 x8 x9 hXs
          refine' wp_region_flowR [[], [(95, 0)], [(96, 1)], [], [(98, 3)], [(99, 4)], [], [(101, 6)], [(102, 7)], [(97, 2), (100, 5), (103, 8)], [], [(95, 0), (96, 1), (97, 2), (98, 3), (99, 4), (100, 5), (101, 6), (102, 7), (103, 8), (104, 9), (14, 10)]] (relL [eqV _, eqV _, eqV _, eqV _, eqV _, eqV _, eqV _, eqV _, eqV _, eqV _, ptrTo (Obj.cells #[Value.int IntKind.i64 0, Value.int IntKind.u16 0, Value.int IntKind.u16 0] 39) wr, fun v V => True]) (by kernel_rfl) (by kernel_rfl) ?_
          rotate_left 10
          refine FlowR.step ?_ ?_
          · intro V hV
            simp only [Dep, Act.put, List.setIfInBounds_toArray, List.set_cons_zero, List.set_cons_succ]
            intro K hK
            go_simp
            refine hK _ _ ?_ (Below.refl _ _)
            simp only [relL, List.getElem?_cons_zero, List.getElem?_cons_succ, eqV]
            exact rfl
          refine FlowR.step ?_ ?_
          · intro V hV
            simp only [Dep, Act.put, List.setIfInBounds_toArray, List.set_cons_zero, List.set_cons_succ]
            rintro x95 ⟨V95, rfl, hb95⟩
            intro K hK
            go_simp
            refine hK _ _ ?_ (Below.refl _ _)
            simp only [relL, List.getElem?_cons_zero, List.getElem?_cons_succ, eqV]
            exact rfl
          refine FlowR.step ?_ ?_
          · intro V hV
            simp only [Dep, Act.put, List.setIfInBounds_toArray, List.set_cons_zero, List.set_cons_succ]
            rintro x96 ⟨V96, rfl, hb96⟩
            intro K hK
            go_simp
            refine hK _ _ ?_ (Below.refl _ _)
            simp only [relL, List.getElem?_cons_zero, List.getElem?_cons_succ, eqV]
            exact rfl
          refine FlowR.step ?_ ?_
          · intro V hV
            simp only [Dep, Act.put, List.setIfInBounds_toArray, List.set_cons_zero, List.set_cons_succ]
            intro K hK
            go_simp
            refine hK _ _ ?_ (Below.refl _ _)
            simp only [relL, List.getElem?_cons_zero, List.getElem?_cons_succ, eqV]
            exact rfl
          refine FlowR.step ?_ ?_
          · intro V hV
            simp only [Dep, Act.put, List.setIfInBounds_toArray, List.set_cons_zero, List.set_cons_succ]
            rintro x98 ⟨V98, rfl, hb98⟩
            intro K hK
            go_simp
            refine hK _ _ ?_ (Below.refl _ _)
            simp only [relL, List.getElem?_cons_zero, List.getElem?_cons_succ, eqV]
            exact rfl
          refine FlowR.step ?_ ?_
          · intro V hV
            simp only [Dep, Act.put, List.setIfInBounds_toArray, List.set_cons_zero, List.set_cons_succ]
            rintro x99 ⟨V99, rfl, hb99⟩
            intro K hK
            go_simp
            go_at_call 62
            refine (cG1.out V).mono ?_
            rintro e w9 ⟨rfl, h9⟩
            refine hK _ _ ?_ h9
            simp only [relL, List.getElem?_cons_zero, List.getElem?_cons_succ, eqV]
            exact rfl
          refine FlowR.step ?_ ?_
          · intro V hV
            simp only [Dep, Act.put, List.setIfInBounds_toArray, List.set_cons_zero, List.set_cons_succ]
            intro K hK
            go_simp
            refine hK _ _ ?_ (Below.refl _ _)
            simp only [relL, List.getElem?_cons_zero, List.getElem?_cons_succ, eqV]
            exact rfl
          refine FlowR.step ?_ ?_
          · intro V hV
            simp only [Dep, Act.put, List.setIfInBounds_toArray, List.set_cons_zero, List.set_cons_succ]
            rintro x101 ⟨V101, rfl, hb101⟩
            intro K hK
            go_simp
            refine hK _ _ ?_ (Below.refl _ _)
            simp only [relL, List.getElem?_cons_zero, List.getElem?_cons_succ, eqV]
            exact rfl
          refine FlowR.step ?_ ?_
          · intro V hV
            simp only [Dep, Act.put, List.setIfInBounds_toArray, List.set_cons_zero, List.set_cons_succ]
            rintro x102 ⟨V102, rfl, hb102⟩
            intro K hK
            go_simp
            go_at_call 62
            refine (cG3.out V).mono ?_
            rintro e w9 ⟨rfl, h9⟩
            refine hK _ _ ?_ h9
            simp only [relL, List.getElem?_cons_zero, List.getElem?_cons_succ, eqV]
            exact rfl
          refine FlowR.step ?_ ?_
          · intro V hV
            simp only [Dep, Act.put, List.setIfInBounds_toArray, List.set_cons_zero, List.set_cons_succ]
            rintro x97 ⟨V97, rfl, hb97⟩
            rintro x100 ⟨V100, rfl, hb100⟩
            rintro x103 ⟨V103, rfl, hb103⟩
            intro K hK
            go_simp
            refine hK _ _ ?_ (Below.refl _ _)
            simp only [relL, List.getElem?_cons_zero, List.getElem?_cons_succ, eqV]
            exact rfl
          refine FlowR.step ?_ ?_
          · intro V hV
            simp only [Dep, Act.put, List.setIfInBounds_toArray, List.set_cons_zero, List.set_cons_succ]
            intro K hK
            go_simp
            exact hK _ _ (ptr_at hV) (below1 _ _)
          refine FlowR.last ?_
          intro V hV
          simp only [Dep, Act.put, List.setIfInBounds_toArray, List.set_cons_zero, List.set_cons_succ]
          rintro x95 ⟨V95, rfl, hb95⟩
          rintro x96 ⟨V96, rfl, hb96⟩
          rintro x97 ⟨V97, rfl, hb97⟩
          rintro x98 ⟨V98, rfl, hb98⟩
          rintro x99 ⟨V99, rfl, hb99⟩
          rintro x100 ⟨V100, rfl, hb100⟩
          rintro x101 ⟨V101, rfl, hb101⟩
          rintro x102 ⟨V102, rfl, hb102⟩
          rintro x103 ⟨V103, rfl, hb103⟩
          rintro x104 ⟨V104, rfl, hb104⟩
          rintro x14 ⟨V14, ⟨W9, rfl, rfl, hW9⟩, hb14⟩
          intro K hK
          obtain ⟨z0, g0⟩ := made_cells hb14 0 _ rfl
          obtain ⟨z1, g1⟩ := made_cells hb14 1 _ rfl
          obtain ⟨z2, g2⟩ := made_cells hb14 2 _ rfl
          obtain ⟨hB2, hC2⟩ := stored hb14 hW9 [.int .i64 bz, .int .u16 c1, .int .u16 c3] rfl
          simp only [setAll] at hB2 hC2
          go_simp
          refine hK _ _ ?_
          clear hK K z0 z1 z2 g0 g1 g2
          have HW9 := Lib.hid hW9.size
          have HFr : Hid (∀ j, (((V.setCell ⟨W9.heap.size, 0, none⟩ (.int .i64 bz)).setCell ⟨W9.heap.size, 1, none⟩ (.int .u16 c1)).setCell ⟨W9.heap.size, 2, none⟩ (.int .u16 c3)).frozen? ⟨W9.heap.size, j, none⟩ = false) := Lib.hid fun j => by rw [frozen_set', frozen_set', frozen_set']; rw [hb14.frozen (p := ⟨W9.heap.size, j, none⟩) (by simp)]; simp [go_sem]
          have HC2 := Lib.hid hC2
          have HB2 := Lib.hid hB2
          clear hC2 hB2 hW9 hb14 hV hb95 V95 hb96 V96 hb97 V97 hb98 V98 hb99 V99 hb100 V100 hb101 V101 hb102 V102 hb103 V103 hb104 V104 cG1 cG3 hx0 hx0a y0 y0n y1 y3
          generalize ((V.setCell ⟨W9.heap.size, 0, none⟩ (.int .i64 bz)).setCell ⟨W9.heap.size, 1, none⟩ (.int .u16 c1)).setCell ⟨W9.heap.size, 2, none⟩ (.int .u16 c3) = W3 at *
          have hcell : W3.cell? ⟨W9.heap.size, 0, none⟩ = some (.int .i64 bz) := HC2.out _ (Below.refl _ _) 0 _ rfl
          by_cases hbz : bz = 255
          · subst hbz
            have hfr := HFr.out 0
            have HM : Hid (RM w (W3.setCell ⟨W9.heap.size, 0, none⟩ (.int .i64 (-1))) ⟨(List.range (nB s)).map (bankS s), wordAt s 6, wordAt s 8, (List.range k).map (objAt s), []⟩ v1 (.slice q2 k e2) (.slice none 0 0)) := Lib.hid (KM.out.next (HB2.out.setCell (p := ⟨W9.heap.size, 0, none⟩) HW9.out _))
            have HA := Lib.hid (HM.out.next (below1 _ (Obj.cells #[.int .i64 (-1), .int .u16 c1, .int .u16 c3] 39)))
            have c1c := HC2.out _ (Below.refl _ _) 1 _ rfl
            have c2c := HC2.out _ (Below.refl _ _) 2 _ rfl
            have i3 := HM.out.m.i3
            obtain ⟨hi39, hz39, hs39, hb39⟩ := HI39.out
            have A1 : ∀ (j : Nat) (u : Value), (ObjI.cells ⟨-1, c1, c3⟩)[j]? = some u → ((W3.setCell ⟨W9.heap.size, 0, none⟩ (.int .i64 (-1))).alloc (Obj.cells #[.int .i64 (-1), .int .u16 c1, .int .u16 c3] 39)).cell? ((⟨W3.heap.size, 0, none⟩ : Addr).add j) = some u := by
              intro j u hj
              have h := news_obj (w := (W3.setCell ⟨W9.heap.size, 0, none⟩ (.int .i64 (-1)))) (t := 39) ⟨-1, c1, c3⟩ j u hj
              rwa [size_set] at h
            have A4 : k + 1 ≤ maxLen := len_le hlt n1
            have A5 : (k + 1) * 16 ≤ 140737488355328 := len_le16 hlt n1
            have A6 := Nat.le_trans (Nat.le_succ_of_le (Nat.le_succ _)) HA.out.size
            have KA := Lib.hid (And.intro A1 (And.intro A4 (And.intro A5 A6)))
            clear A1 A4 A5 A6
            go_wp2_with (at_builtin; refine Hid.out ?_)
            refine Lib.hid ?_
            refine wpList_append_own _ rfl (.tmp 110) (.tmp 112) 27 rfl (w.heap.size + 1) 39 i39 (.agg #[.int .i64 0, .int .u16 0, .int .u16 0]) 3 16 Try.underlying27 hi39 hz39 hs39 hb39 rfl (by decide) (.slice q2 k e2) _ _ rfl HA.out.m.o2 ⟨W3.heap.size, 0, none⟩ 1 1 (ObjI.cells ⟨-1, c1, c3⟩) rfl rfl KA.out.1 (one_obj ⟨-1, c1, c3⟩) ?a4y ?a5y KA.out.2.2.2 ?a7y
            case a4y => simpa using KA.out.2.1
            case a5y => simpa using KA.out.2.2.1
            intro v' w3 hown hg _
            obtain ⟨p', c', rfl, hpc⟩ := own_slice hown
            clear hpc
            have hC := HA.out.m.keep hg (fun j hj => (HA.out.m.o2.lt j hj).1)
            have HP := Lib.hid (HA.out.grow (k := 3) HA.out.m.o2 (by decide) (by decide) (Nat.le_refl _) hg (HA.out.m.push2 ⟨-1, c1, c3⟩ hown hg))
            clear i3 c1c c2c hcell KA hfr hown hg HA hi39 hz39 hs39 hb39
            obtain ⟨i0, i1, i2, i3, i4, f0, f3, f4⟩ := hC
            dsimp only at i1 i2 i3 HP
            simp only [List.length_map, List.length_range] at HP ⊢
            go_wp2_with fail
            go_roundw
            case rel =>
              refine ⟨k + 1, .slice p' (k + 1) c', by omega, by go_num, ?_⟩
              rw [range_map_succ]
              have e : objAt s k = ⟨-1, c1, c3⟩ := by
                unfold objAt
                rw [← KX.out.1, ← KX.out.2.1, ← KX.out.2.2]
                rw [if_pos rfl]
              rw [e]
              exact HP.out
            case measure => simp [intOf]; omega
          · have hbf : (bz == 255) = false := by simpa using hbz
            have HZB := Lib.hid hbz
            clear hbz
            have HM : Hid (RM w W3 ⟨(List.range (nB s)).map (bankS s), wordAt s 6, wordAt s 8, (List.range k).map (objAt s), []⟩ v1 (.slice q2 k e2) (.slice none 0 0)) := Lib.hid (KM.out.next HB2.out)
            have HA := Lib.hid (HM.out.next (below1 _ (Obj.cells #[.int .i64 (bz), .int .u16 c1, .int .u16 c3] 39)))
            have c1c := HC2.out _ (Below.refl _ _) 1 _ rfl
            have c2c := HC2.out _ (Below.refl _ _) 2 _ rfl
            have i3 := HM.out.m.i3
            obtain ⟨hi39, hz39, hs39, hb39⟩ := HI39.out
            have A1 : ∀ (j : Nat) (u : Value), (ObjI.cells ⟨bz, c1, c3⟩)[j]? = some u → (W3.alloc (Obj.cells #[.int .i64 (bz), .int .u16 c1, .int .u16 c3] 39)).cell? ((⟨W3.heap.size, 0, none⟩ : Addr).add j) = some u := by
              intro j u hj
              have h := news_obj (w := W3) (t := 39) ⟨bz, c1, c3⟩ j u hj
              exact h
            have A4 : k + 1 ≤ maxLen := len_le hlt n1
            have A5 : (k + 1) * 16 ≤ 140737488355328 := len_le16 hlt n1
            have A6 := Nat.le_trans (Nat.le_succ_of_le (Nat.le_succ _)) HA.out.size
            have KA := Lib.hid (And.intro A1 (And.intro A4 (And.intro A5 A6)))
            clear A1 A4 A5 A6
            go_wp2_with (at_builtin; refine Hid.out ?_)
            refine Lib.hid ?_
            refine wpList_append_own _ rfl (.tmp 110) (.tmp 112) 27 rfl (w.heap.size + 1) 39 i39 (.agg #[.int .i64 0, .int .u16 0, .int .u16 0]) 3 16 Try.underlying27 hi39 hz39 hs39 hb39 rfl (by decide) (.slice q2 k e2) _ _ rfl HA.out.m.o2 ⟨W3.heap.size, 0, none⟩ 1 1 (ObjI.cells ⟨bz, c1, c3⟩) rfl rfl KA.out.1 (one_obj ⟨bz, c1, c3⟩) ?a4n ?a5n KA.out.2.2.2 ?a7n
            case a4n => simpa using KA.out.2.1
            case a5n => simpa using KA.out.2.2.1
            intro v' w3 hown hg _
            obtain ⟨p', c', rfl, hpc⟩ := own_slice hown
            clear hpc
            have hC := HA.out.m.keep hg (fun j hj => (HA.out.m.o2.lt j hj).1)
            have HP := Lib.hid (HA.out.grow (k := 3) HA.out.m.o2 (by decide) (by decide) (Nat.le_refl _) hg (HA.out.m.push2 ⟨bz, c1, c3⟩ hown hg))
            clear i3 c1c c2c hcell KA hown hg HA hi39 hz39 hs39 hb39
            obtain ⟨i0, i1, i2, i3, i4, f0, f3, f4⟩ := hC
            dsimp only at i1 i2 i3 HP
            simp only [List.length_map, List.length_range] at HP ⊢
            go_wp2_with fail
            go_roundw
            case rel =>
              refine ⟨k + 1, .slice p' (k + 1) c', by omega, by go_num, ?_⟩
              rw [range_map_succ]
              have e : objAt s k = ⟨bz, c1, c3⟩ := by
                unfold objAt
                rw [← KX.out.1, ← KX.out.2.1, ← KX.out.2.2]
                rw [if_neg HZB.out]
              rw [e]
              exact HP.out
            case measure => simp [intOf]; omega
        · obtain rfl : k = nO s := by omega
          go_wp2_with fail
          obtain ⟨wo2, rfl⟩ : ∃ wo2 : World, wo2 = wr := ⟨_, rfl⟩
          go_loopw [117] (fun i wy => ∃ (k : Nat) (v3 : Value), k ≤ nR s ∧ i = .int .i64 k ∧ RM w wy ⟨(List.range (nB s)).map (bankS s), wordAt s 6, wordAt s 8, (List.range (nO s)).map (objAt s), (List.range k).map (relAt s)⟩ v1 v2 v3) (fun i _ => nR s - (intOf i).toNat)
          case atStart => exact ⟨0, .slice none 0 0, Nat.zero_le _, rfl, KM.out⟩
          case round =>
            clear KM
            obtain ⟨k, v3, hk, rfl, hm⟩ := hrel
            have KM := Lib.hid hm
            clear hm
            by_cases hlt : k < nR s
            · have hltI : (k : Int) < (nR s : Int) := by omega
              obtain ⟨q3, e3, rfl, hq3⟩ := own_slice KM.out.m.o3
              clear hq3
              simp only [List.length_map, List.length_range] at KM
              have hd := KD.out
              have x0 : IntKind.i64.wrap (3 * (k : Int)) = 3 * (k : Int) := IntWalk.i64_in _ (by omega)
              have x1 : IntKind.i64.wrap ((firstA s : Int) + 3 * (k : Int)) = (firstA s : Int) + 3 * (k : Int) := IntWalk.i64_in _ (by omega)
              have x5 : (0 : Int) ≤ (firstA s : Int) + 3 * (k : Int) := by omega
              have x6 : (firstA s : Int) + 3 * (k : Int) ≤ (s.size : Int) := by omega
              have x8 : ((firstA s : Int) + 3 * (k : Int)).toNat = firstA s + 3 * k := by omega
              have x9 : firstA s + 3 * k + 3 ≤ s.size := by omega
              clear hd
              go_wp2_with fail
              have KX : Hid (byteI (s.extract (firstA s + 3 * k) s.size) 0 = byteI s (firstA s + 3 * k) ∧ getI ((s.extract (firstA s + 3 * k) s.size).extract 1 (s.extract (firstA s + 3 * k) s.size).size) = wordAt s (firstA s + 3 * k + 1)) := ⟨byteI_drop s _ 0, word_drop s _ 1⟩
              have hXs : (s.extract (firstA s + 3 * k) s.size).size = s.size - (firstA s + 3 * k) := by rw [ByteArray.size_extract]; omega
              generalize s.extract (firstA s + 3 * k) s.size = X at *
              have hX5 : 3 ≤ X.size := by omega
              have hXm : X.size ≤ 324720 := by omega
              have y0 : (0 : Int) < (X.size : Int) := by omega
              have y0n : 0 < X.size := by omega
              have y1 : (1 : Int) ≤ (X.size : Int) := by omega
              have bb := byteI_bd X 0
              have hx0a : ((X[0]'y0n).toNat : Int) = byteI X 0 := byte_at X y0n
              have hx0 : IntKind.i64.wrap (byteI X 0) = byteI X 0 := IntWalk.i64_in _ (by omega)
              generalize byteI X 0 = bz at *
              obtain ⟨c1, hc1⟩ : ∃ c, c = getI (X.extract 1 X.size) := ⟨_, rfl⟩
              have cG1 : Hid (∀ V : World, Calls Try.prog 62 #[.string (X.extract 1 X.size)] V fun e w' => e = .returned (.int .u16 c1) ∧ Below V.heap.size V w') := Lib.hid fun V => by rw [hc1]; exact get_any _ V (by rw [ByteArray.size_extract]; unfold maxLen; omega)
              rw [← hc1] at KX
              have KC1 : Hid (OkU16 c1) := Lib.hid (by rw [hc1]; exact getI_bd _)
              clear hc1
              clear x0 x1 x5 x6 x8 x9 hXs
              refine' wp_region_flowS 10 [10, 12] [[], [(126, 0)], [], [(128, 2)], [(129, 3)], [], [(131, 5)], [(132, 6)], [(130, 4), (133, 7)], [(134, 8)], [(127, 1), (135, 9)], [], [(137, 11), (136, 10)]] [(126, 0), (127, 1), (128, 2), (129, 3), (130, 4), (131, 5), (132, 6), (133, 7), (134, 8), (135, 9), (137, 11)] (relL [eqV _, eqV _, eqV _, eqV _, eqV _, eqV _, eqV _, eqV _, eqV _, NewR (.int .i64 bz) (.int .u16 c1) 41, fun v V => True, eqV _, fun v V => True]) [(10, _), (12, _)] (by kernel_rfl) (by kernel_rfl) rfl ?_ ?_
              rotate_left 10
              · refine FlowS.mem (by decide) ?_ ?_
                · intro V hV
                  simp only [Dep, Act.put, List.setIfInBounds_toArray, List.set_cons_zero, List.set_cons_succ]
                  intro K hK
                  go_simp
                  refine hK _ _ ?_ (Below.refl _ _)
                  simp only [relL, eqV]
                  exact rfl
                refine FlowS.mem (by decide) ?_ ?_
                · intro V hV
                  simp only [Dep, Act.put, List.setIfInBounds_toArray, List.set_cons_zero, List.set_cons_succ]
                  rintro x126 ⟨V126, rfl, hb126⟩
                  intro K hK
                  have i4 := (KM.out.next hV).m.i4
                  go_simp
                  refine hK _ _ ?_ (Below.refl _ _)
                  simp only [relL, eqV]
                  exact rfl
                refine FlowS.mem (by decide) ?_ ?_
                · intro V hV
                  simp only [Dep, Act.put, List.setIfInBounds_toArray, List.set_cons_zero, List.set_cons_succ]
                  intro K hK
                  go_simp
                  refine hK _ _ ?_ (Below.refl _ _)
                  simp only [relL, eqV]
                  exact rfl
                refine FlowS.mem (by decide) ?_ ?_
                · intro V hV
                  simp only [Dep, Act.put, List.setIfInBounds_toArray, List.set_cons_zero, List.set_cons_succ]
                  rintro x128 ⟨V128, rfl, hb128⟩
                  intro K hK
                  go_simp
                  refine hK _ _ ?_ (Below.refl _ _)
                  simp only [relL, eqV]
                  exact rfl
                refine FlowS.mem (by decide) ?_ ?_
                · intro V hV
                  simp only [Dep, Act.put, List.setIfInBounds_toArray, List.set_cons_zero, List.set_cons_succ]
                  rintro x129 ⟨V129, rfl, hb129⟩
                  intro K hK
                  go_simp
                  refine hK _ _ ?_ (Below.refl _ _)
                  simp only [relL, eqV]
                  exact rfl
                refine FlowS.mem (by decide) ?_ ?_
                · intro V hV
                  simp only [Dep, Act.put, List.setIfInBounds_toArray, List.set_cons_zero, List.set_cons_succ]
                  intro K hK
                  go_simp
                  refine hK _ _ ?_ (Below.refl _ _)
                  simp only [relL, eqV]
                  exact rfl
                refine FlowS.mem (by decide) ?_ ?_
                · intro V hV
                  simp only [Dep, Act.put, List.setIfInBounds_toArray, List.set_cons_zero, List.set_cons_succ]
                  rintro x131 ⟨V131, rfl, hb131⟩
                  intro K hK
                  go_simp
                  refine hK _ _ ?_ (Below.refl _ _)
                  simp only [relL, eqV]
                  exact rfl
                refine FlowS.mem (by decide) ?_ ?_
                · intro V hV
                  simp only [Dep, Act.put, List.setIfInBounds_toArray, List.set_cons_zero, List.set_cons_succ]
                  rintro x132 ⟨V132, rfl, hb132⟩
                  intro K hK
                  go_simp
                  go_at_call 62
                  refine (cG1.out V).mono ?_
                  rintro e w9 ⟨rfl, h9⟩
                  refine hK _ _ ?_ h9
                  simp only [relL, eqV]
                  exact rfl
                refine FlowS.mem (by decide) ?_ ?_
                · intro V hV
                  simp only [Dep, Act.put, List.setIfInBounds_toArray, List.set_cons_zero, List.set_cons_succ]
                  rintro x130 ⟨V130, rfl, hb130⟩
                  rintro x133 ⟨V133, rfl, hb133⟩
                  intro K hK
                  go_simp
                  refine hK _ _ ?_ (Below.refl _ _)
                  simp only [relL, eqV]
                  exact rfl
                refine FlowS.mem (by decide) ?_ ?_
                · intro V hV
                  simp only [Dep, Act.put, List.setIfInBounds_toArray, List.set_cons_zero, List.set_cons_succ]
                  rintro x134 ⟨V134, rfl, hb134⟩
                  intro K hK
                  go_simp
                  exact hK _ _ ⟨V, rfl, rfl⟩ (below1 _ _)
                refine FlowS.store (by decide) rfl ?_
                refine FlowS.val (by decide) _ (fun _ _ => Iff.rfl) ?_ ?_
                · simp only [DepP, Act.put, List.setIfInBounds_toArray, List.set_cons_zero, List.set_cons_succ]
                  intro V K hK
                  go_simp
                  exact hK
                refine FlowS.store (by decide) rfl ?_
                exact FlowS.nil
              · intro V hV
                simp only [Dep, Act.put, List.setIfInBounds_toArray, List.set_cons_zero, List.set_cons_succ]
                rintro x126 ⟨V126, rfl, hb126⟩
                rintro x127 ⟨V127, rfl, hb127⟩
                rintro x128 ⟨V128, rfl, hb128⟩
                rintro x129 ⟨V129, rfl, hb129⟩
                rintro x130 ⟨V130, rfl, hb130⟩
                rintro x131 ⟨V131, rfl, hb131⟩
                rintro x132 ⟨V132, rfl, hb132⟩
                rintro x133 ⟨V133, rfl, hb133⟩
                rintro x134 ⟨V134, rfl, hb134⟩
                rintro x135 ⟨V135, ⟨W9, rfl, rfl⟩, hb135⟩
                rintro x137 ⟨V137, rfl, hb137⟩
                have HM := Lib.hid (KM.out.next hV)
                have i4 := HM.out.m.i4
                intro K1 hK1
                obtain ⟨hi41, hz41, hs41, hb41⟩ := HI41.out
                refine (if_pos (by rfl)).mpr ?_
                refine wp_append_lies _ _ _ _ rfl (w.heap.size + 1) 41 i41 (.agg #[.int .i64 0, .int .u16 0]) 2 16 Try.underlying28 hi41 hz41 hs41 hb41 rfl (by decide) _ _ _ rfl HM.out.m.o3 ⟨W9.heap.size, 0, none⟩ 1 1 (RelI.cells ⟨bz, c1⟩) rfl rfl (news_at hb135 _ rfl) (one_rel _) (by decide) (by simp; unfold maxLen; omega) (by simp; omega) (by have := HM.out.size; omega) _ rfl ?_
                intro g cap w3 hown hg _ _
                refine hK1 _ _ ?_
                simp only [Act.put, List.setIfInBounds_toArray, List.set_cons_zero, List.set_cons_succ, List.length_map, List.length_range]
                clear hK1 K1 hi41 hz41 hs41 hb41 i4
                have hm3 := HM.out.m.push3 ⟨bz, c1⟩ (by simpa using hown) hg
                have HP := Lib.hid (HM.out.grow (k := 4) HM.out.m.o3 (by decide) (by decide) (Nat.le_refl _) hg hm3)
                have hb3 : Below (w.heap.size + 1) V w3 := (Below.refl _ _).grown hg (by have := HM.out.size; omega) (fun j e => (HM.out.m.o3.lt j e).1)
                have i4 := (hb3.cell (p := ⟨w.heap.size, 4, none⟩) (Nat.lt_succ_self _)).trans HM.out.m.i4
                have f4 := (hb3.frozen (p := ⟨w.heap.size, 4, none⟩) (Nat.lt_succ_self _)).trans HM.out.m.f4
                clear hm3 hb3 hown hg HM
                intro K1 hK1
                go_simp
                refine hK1 undef _ ?_
                clear hK1 K1 i4 f4
                unfold TailS
                go_wp2_with fail
                go_roundw
                case rel =>
                  refine ⟨k + 1, .slice (some ⟨g, 0, none⟩) (k + 1) cap, by omega, by go_num, ?_⟩
                  rw [range_map_succ]
                  have hp := HP.out
                  simp only [List.length_map, List.length_range] at hp
                  have e : relAt s k = ⟨bz, c1⟩ := by
                    unfold relAt
                    rw [← KX.out.1, ← KX.out.2]
                  rw [e]
                  exact hp
                case measure => simp [intOf]; omega
            · obtain rfl : k = nR s := by omega
              have hImg := read_img s w wr v1 v2 v3 (Nat.le_trans (Nat.le_add_right _ _) hz1) n1 n2 n4 KM.out
              obtain ⟨hFull, hl1, hl2, hl3, p1, c1, p2, c2, p3, c3, rfl, rfl, rfl, hI⟩ := hImg
              have HKE := Lib.hid (And.intro (readE_obj s HK.out HZ.out (by simpa using HSB.out)) (And.intro (readE_rel s HK.out HZ.out (by simpa using HSB.out)) (readE_ok s HK.out HZ.out (by simpa using HSB.out))))
              have KM2 : Hid (ReadMem w wr (.slice p1 (imgOf s).banks.length c1) (.int .u16 (imgOf s).entry) (.int .u16 (imgOf s).vector) (.slice p2 (imgOf s).data.length c2) (.slice p3 (imgOf s).relocs.length c3)) := Lib.hid KM.out.read
              clear KM
              have HRI := Lib.hid (readI_ok s)
              generalize imgOf s = I at *
              have hfo := firstObj_bd (nB s) I.data none 0
              have hfr := firstRel_bd I.banks I.data I.relocs none 0
              have HII := Lib.hid hI
              have HFU := Lib.hid hFull
              clear hI hFull HSB
              have hl2b : I.data.length ≤ 512 := by omega
              have hl3b : I.relocs.length ≤ 20000 := by omega
              have HL := Lib.hid (And.intro hl1 (And.intro hl2 hl3))
              clear hl1 hl2 hl3
              have i3 := KM2.out.i3
              go_wp2_with fail
              clear i3
              refine (badObject_any p2 c2 I.data (nB s) _ (by unfold maxLen; omega) HII.out.data ⟨by omega, by omega⟩ (by omega)).mono ?_
              rintro e w2 ⟨rfl, hB2⟩
              have KM3 := Lib.hid (KM2.out.next hB2)
              have HI3 := Lib.hid (HII.out.kept hB2)
              clear hB2
              generalize hFO : firstObj (nB s) none I.data 0 = fo at *
              generalize hFR : firstRel I.banks I.data none I.relocs 0 = fr at *
              have HFR := Lib.hid hFR
              clear hFO hFR
              by_cases hof : 0 ≤ fo
              · have hE := Lib.hid (HKE.out.1 hof)
                go_wp2_with fail
                refine (need_no _ _ _ _ rfl).mono ?_
                rintro e w' ⟨rfl, rfl⟩
                exact leaves_caught KM3.out rfl rfl rfl (fun W hW => HR.out _ _ (readPost_bad hE.out (by decide) hW))
              have HOF := Lib.hid hof
              have hofB : decide (0 ≤ fo) = false := by simpa using hof
              clear hof
              obtain ⟨i0, i1, i2, i3, i4⟩ := KM3.out.five
              go_wp2_with fail
              clear i0 i1 i2 i3 i4
              refine (badReloc_any p1 c1 p2 c2 p3 c3 I _ HI3.out HFU.out).mono ?_
              rintro e w3 ⟨rfl, hB3⟩
              rw [HFR.out]
              have KM4 := Lib.hid (KM3.out.next hB3)
              have HI4 := Lib.hid (HI3.out.kept hB3)
              clear hB3
              by_cases hrf : 0 ≤ fr
              · have hE := Lib.hid (HKE.out.2.1 (by have := HOF.out; omega) (by omega))
                go_wp2_with fail
                refine (need_no _ _ _ _ rfl).mono ?_
                rintro e w' ⟨rfl, rfl⟩
                exact leaves_caught KM4.out rfl rfl rfl (fun W hW => HR.out _ _ (readPost_bad hE.out (by decide) hW))
              have hE := Lib.hid (HKE.out.2.2 (by have := HOF.out; omega) (by omega))
              have hrfB : decide (0 ≤ fr) = false := by simpa using hrf
              clear hrf
              obtain ⟨i0, i1, i2, i3, i4, iq, ir, f0, f1, f2, f3, f4, fq, fr2, _, _⟩ := KM4.out
              have s0 := setCell_self i0
              have s1 := setCell_self i1
              have s2 := setCell_self i2
              have s3 := setCell_self i3
              have s4 := setCell_self i4
              have sq := setCell_self iq
              have sr := setCell_self ir
              go_wp2_with fail
              refine leaves_idle i0 i1 i2 i3 i4 iq ir rfl rfl rfl (HR.out _ _ ?_)
              refine ⟨p1, c1, p2, c2, p3, c3, ?_, ?_, KM4.out.below⟩
              · rw [HRI.out hE.out, hE.out]; rfl
              · rw [HRI.out hE.out]; exact HI4.out
end Go.Proofs.Ytgdiaaoekkdibaa
