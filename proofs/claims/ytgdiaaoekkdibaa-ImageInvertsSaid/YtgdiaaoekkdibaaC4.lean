/- Contract of the reference's Write. -/
import Derived.Test.YtgdiaaoekkdibaaC3
namespace Go.Proofs.Ytgdiaaoekkdibaa
set_option linter.unusedVariables false
set_option linter.unusedSimpArgs false
open Go.RowKit
set_option maxRecDepth 8000 in
set_option maxHeartbeats 8000000 in
theorem rwrite_any (p1 : Option Addr) (p4 : Nat) (p2 : Option Addr) (p5 : Nat) (p3 : Option Addr) (p6 : Nat) (I : Img) (b a : Int) (t : ByteArray) (w : World) (hI : ImgAt w p1 p2 p3 I) (hb : OkI64 b) (ha : OkU16 a) (ht : t.size ≤ 4096) (n1 : I.banks.length ≤ 100000) (n2 : I.data.length ≤ 100000) (n3 : I.relocs.length ≤ 100000) (hB : ∀ s ∈ I.banks, s.size ≤ 4096) (Rr : Ending → World → Prop) (HR : Hid (∀ e w', WritePost I b a t w e w' → Rr e w')) :
    Calls Try.prog 41 #[imgV p1 p4 p2 p5 p3 p6 I, .agg #[.int .i64 b, .int .u16 a], .string t] w Rr := by
  have KN := Lib.hid (info_parts infoStr)
  have KI := Lib.hid hI
  have KB := Lib.hid hB
  have Kb := Lib.hid hb
  have Ka := Lib.hid ha
  have M0 := wmem_start w (.slice p1 I.banks.length p4) (.int .u16 I.entry) (.int .u16 I.vector) (.slice p2 I.data.length p5) (.slice p3 I.relocs.length p6) (.int .i64 b) (.int .u16 a)
  have KZ := Lib.hid (fun V (hb : Below (((w.alloc (Obj.cells #[.slice p1 I.banks.length p4, .int .u16 I.entry, .int .u16 I.vector, .slice p2 I.data.length p5, .slice p3 I.relocs.length p6] 30)).alloc (Obj.cells #[Value.int IntKind.i64 b, Value.int IntKind.u16 a] 55)).alloc (Obj.cells #[Value.slice none 0 0, Value.int IntKind.u16 0, Value.int IntKind.u16 0, Value.slice none 0 0, Value.slice none 0 0] 30)).heap.size (((w.alloc (Obj.cells #[.slice p1 I.banks.length p4, .int .u16 I.entry, .int .u16 I.vector, .slice p2 I.data.length p5, .slice p3 I.relocs.length p6] 30)).alloc (Obj.cells #[Value.int IntKind.i64 b, Value.int IntKind.u16 a] 55)).alloc (Obj.cells #[Value.slice none 0 0, Value.int IntKind.u16 0, Value.int IntKind.u16 0, Value.slice none 0 0, Value.slice none 0 0] 30)) V) => (M0.next hb))
  have KP : Hid (∀ V, Below (((w.alloc (Obj.cells #[.slice p1 I.banks.length p4, .int .u16 I.entry, .int .u16 I.vector, .slice p2 I.data.length p5, .slice p3 I.relocs.length p6] 30)).alloc (Obj.cells #[Value.int IntKind.i64 b, Value.int IntKind.u16 a] 55)).alloc (Obj.cells #[Value.slice none 0 0, Value.int IntKind.u16 0, Value.int IntKind.u16 0, Value.slice none 0 0, Value.slice none 0 0] 30)).heap.size (((w.alloc (Obj.cells #[.slice p1 I.banks.length p4, .int .u16 I.entry, .int .u16 I.vector, .slice p2 I.data.length p5, .slice p3 I.relocs.length p6] 30)).alloc (Obj.cells #[Value.int IntKind.i64 b, Value.int IntKind.u16 a] 55)).alloc (Obj.cells #[Value.slice none 0 0, Value.int IntKind.u16 0, Value.int IntKind.u16 0, Value.slice none 0 0, Value.slice none 0 0] 30)) V → ∀ k u, (#[Value.slice none 0 0, Value.int IntKind.u16 0, Value.int IntKind.u16 0, Value.slice none 0 0, Value.slice none 0 0] : Array Value)[k]? = some u → V.cell? ⟨w.heap.size + 2, k, none⟩ = some u) := by
    intro V hb k u hk
    have hs : ((w.alloc (Obj.cells #[.slice p1 I.banks.length p4, .int .u16 I.entry, .int .u16 I.vector, .slice p2 I.data.length p5, .slice p3 I.relocs.length p6] 30)).alloc (Obj.cells #[Value.int IntKind.i64 b, Value.int IntKind.u16 a] 55)).heap.size = w.heap.size + 2 := by simp
    have e := (made_cells hb k u hk).1
    rwa [hs] at e
  clear hI hB hb ha M0
  have hO := fun (W : World) (h : ImgAt W p1 p2 p3 I) => roffset_any p1 p4 p2 p5 p3 p6 I b a W h Kb.out Ka.out
  show Calls Try.prog 41 #[.agg #[.slice p1 I.banks.length p4, .int .u16 I.entry, .int .u16 I.vector, .slice p2 I.data.length p5, .slice p3 I.relocs.length p6], .agg #[.int .i64 b, .int .u16 a], .string t] w Rr
  rcases offI_cases I.banks b a with hc | ⟨hc, hcode, hl, hm⟩
  · have HV := Lib.hid (writeI_no I b a t (by rw [hc]))
    rw [hc] at hO
    have HO := Lib.hid hO
    clear hO hc
    go_enter Try.func41, Try.ntmps41
    go_wp2_with fail
    generalize hW0 : (((w.alloc (Obj.cells #[.slice p1 I.banks.length p4, .int .u16 I.entry, .int .u16 I.vector, .slice p2 I.data.length p5, .slice p3 I.relocs.length p6] 30)).alloc (Obj.cells #[Value.int IntKind.i64 b, Value.int IntKind.u16 a] 55)).alloc (Obj.cells #[Value.slice none 0 0, Value.int IntKind.u16 0, Value.int IntKind.u16 0, Value.slice none 0 0, Value.slice none 0 0] 30)) = W0 at *
    have K0 : Hid (Below w.heap.size w W0) := Lib.hid (KZ.out W0 (Below.refl _ _)).below
    clear hW0
    refine (HO.out _ (KI.out.kept K0.out)).mono ?_
    rintro e w2 ⟨rfl, h2⟩
    have K2 := Lib.hid h2
    clear h2
    have hm := KZ.out _ K2.out
    have z0 := KP.out _ K2.out 0 _ rfl
    have g0 := hm.ft 0
    have z1 := KP.out _ K2.out 1 _ rfl
    have g1 := hm.ft 1
    have z2 := KP.out _ K2.out 2 _ rfl
    have g2 := hm.ft 2
    have z3 := KP.out _ K2.out 3 _ rfl
    have g3 := hm.ft 3
    have z4 := KP.out _ K2.out 4 _ rfl
    have g4 := hm.ft 4
    have i0 := hm.n 0 _ rfl
    have KM := Lib.hid hm
    clear hm
    have HS := Lib.hid (set5 w2 (w.heap.size + 2) (.slice none 0 0) (.int .u16 0) (.int .u16 0) (.slice none 0 0) (.slice none 0 0) _ _ _ _ _ z0 z1 z2 z3 z4)
    have KF : Hid (Below w.heap.size w (setAll (w.heap.size + 2) [.slice none 0 0, .int .u16 0, .int .u16 0, .slice none 0 0, .slice none 0 0] 0 w2)) := Lib.hid (setAll_below (by omega) _ 0 _ KM.out.below)
    simp only [setAll] at KF
    go_wp2_with fail
    obtain ⟨x0, x1, x2, x3, x4⟩ := HS.out
    clear z0 z1 z2 z3 z4 g0 g1 g2 g3 g4 HS i0
    generalize (((((w2.setCell ⟨w.heap.size + 2, 0, none⟩ (Value.slice none 0 0)).setCell ⟨w.heap.size + 2, 1, none⟩ (Value.int IntKind.u16 0)).setCell ⟨w.heap.size + 2, 2, none⟩ (Value.int IntKind.u16 0)).setCell ⟨w.heap.size + 2, 3, none⟩ (Value.slice none 0 0)).setCell ⟨w.heap.size + 2, 4, none⟩ (Value.slice none 0 0)) = WF at *
    exact bodyPost_ret (v := .tuple #[.agg #[.slice none 0 0, .int .u16 0, .int .u16 0, .slice none 0 0, .slice none 0 0], .int .i64 37]) (by simp [results, Try.results41, go_sem, x0, x1, x2, x3, x4]) rfl (HR.out _ _ ⟨_, by rw [HV.out], by rw [HV.out]; exact ⟨none, 0, none, 0, none, 0, rfl, empty_at _ _ _ _⟩, KF.out⟩)
  have b2 : 0 ≤ b := hcode.1
  clear hcode
  obtain ⟨s, hs⟩ := at_some I.banks b.toNat (by omega)
  have hbk : bankAt I.banks b = s := by unfold bankAt; rw [hs]; rfl
  have hsB : s.size ≤ 4096 := KB.out s (List.mem_of_getElem? hs)
  rw [hbk] at hm
  obtain ⟨M, hM⟩ : ∃ M : Nat, a % 4096 = (M : Int) := ⟨(a % 4096).toNat, by omega⟩
  rw [hM] at hm
  have hok : (offI I.banks b a).2.2 = true := by rw [hc]
  rw [hc, hM] at hO
  have HO := Lib.hid hO
  clear hO hc
  have hm2 : M ≤ s.size := by omega
  have KS := Lib.hid hs
  have hw1 : IntKind.i64.wrap ((s.size : Int) - M) = s.size - M := IntWalk.i64_in _ (by omega)
  have hbl : b < (I.banks.length : Int) := hl
  have KC : Hid (∃ B, p1 = some ⟨B, 0, none⟩ ∧ B < w.heap.size ∧ w.cell? ⟨B, b.toNat, none⟩ = some (.string s)) := Lib.hid (by obtain ⟨B, h1, h2, h3, _⟩ := KI.out.banks b.toNat s hs; exact ⟨B, h1, h2, h3⟩)
  by_cases hfit : (t.size : Int) ≤ s.size - M
  · have HV := Lib.hid (writeI_yes I b a t s M hok hbk hM hfit)
    have hfb : decide ((s.size : Int) - M < (t.size : Int)) = false := decide_eq_false (by omega)
    clear hs hbk hM hok
    obtain ⟨B1, hp1, hB1, hc1⟩ := KC.out
    subst hp1
    go_enter Try.func41, Try.ntmps41
    go_wp2_with fail
    generalize hW0 : (((w.alloc (Obj.cells #[.slice (some ⟨B1, 0, none⟩) I.banks.length p4, .int .u16 I.entry, .int .u16 I.vector, .slice p2 I.data.length p5, .slice p3 I.relocs.length p6] 30)).alloc (Obj.cells #[Value.int IntKind.i64 b, Value.int IntKind.u16 a] 55)).alloc (Obj.cells #[Value.slice none 0 0, Value.int IntKind.u16 0, Value.int IntKind.u16 0, Value.slice none 0 0, Value.slice none 0 0] 30)) = W0 at *
    have K0 : Hid (Below w.heap.size w W0) := Lib.hid (KZ.out W0 (Below.refl _ _)).below
    clear hW0
    refine (HO.out _ (KI.out.kept K0.out)).mono ?_
    rintro e w2 ⟨rfl, h2⟩
    have K2 := Lib.hid h2
    clear h2
    have hm := KZ.out _ K2.out
    have i0 := hm.n 0 _ rfl
    have cb := (K2.out.cell (p := ⟨B1, b.toNat, none⟩) (Nat.lt_of_lt_of_le hB1 K0.out.size)).trans ((K0.out.cell (p := ⟨B1, b.toNat, none⟩) hB1).trans hc1)
    clear hm hc1
    obtain ⟨i9, hi9, hz9, hs9, hb9⟩ := KN.out
    have HE := Lib.hid (row_empty w2 9 (w.heap.size + 3) 1 (KZ.out _ K2.out).size)
    have KM1 := Lib.hid ((KZ.out _ K2.out).next (below1 w2 (Obj.cells #[] 9)))
    have i0b := KM1.out.n 0 _ rfl
    go_wp2_with (at_builtin; refine append_src _ rfl (.tmp 36) (.tmp 38) 25 rfl (w.heap.size + 3) 9 i9 (.string ByteArray.empty) 1 16 Try.underlying25 hi9 hz9 hs9 hb9 rfl (by decide) _ rfl HE.out (some ⟨B1, 0, none⟩) I.banks.length p4 (I.banks.map Value.string) rfl (by simp) ((strs_src KI.out.banks).kept KM1.out.below) (by intro u hu; obtain ⟨s, _, rfl⟩ := List.mem_map.1 hu; rfl) (by unfold maxLen; omega) (by omega) KM1.out.size ?_)
    intro v1 w3 hown1 hg1
    clear i0 cb i0b
    obtain ⟨q1, e1, rfl, _⟩ := own_slice hown1
    have KM3 := Lib.hid (KM1.out.far ((Below.refl (w.heap.size + 3) _).grown hg1 KM1.out.size (fun k e => by simp [Value.ownBlock] at e; have := (KZ.out _ K2.out).size; omega)))
    have KO1 := Lib.hid hown1
    clear hown1 hg1 HE KM1 hi9 hz9 hs9 hb9
    obtain ⟨g, rfl, hg, hgB, hgc, hgf⟩ := own_addr KO1.out (by omega)
    have hsm : (I.banks.map Value.string)[b.toNat]? = some (.string s) := by rw [List.getElem?_map, KS.out]; rfl
    have KG : Hid (∀ V, Below w3.heap.size w3 V → V.cell? ⟨g, b.toNat, none⟩ = some (.string s) ∧ V.frozen? ⟨g, b.toNat, none⟩ = false) := fun V hb => ⟨(hb.cell (p := ⟨g, b.toNat, none⟩) hg).trans (hgc b.toNat _ hsm), (hb.frozen (p := ⟨g, b.toNat, none⟩) hg).trans (hgf b.toNat)⟩
    have Kgb := Lib.hid hgB
    clear hgc hgf hsm hg hgB
    obtain ⟨cb, _⟩ := KG.out _ (Below.refl _ _)
    go_wp2_with fail
    clear cb
    have hw2 : IntKind.i64.wrap ((M : Int) + t.size) = M + t.size := IntWalk.i64_in _ (by omega)
    have hx0 : (0 : Int) ≤ (M : Int) + t.size := by omega
    have hx1 : (M : Int) + t.size ≤ s.size := by omega
    have hx2 : (M : Int) ≤ s.size := by omega
    have htn : ((M : Int) + t.size).toNat = M + t.size := by omega
    have hx3 : ¬ 9223372036854775807 < M + t.size := by omega
    have hx4 : ¬ 9223372036854775807 < M + t.size + (s.size - (M + t.size)) := by omega
    refine' wp_region_flowR [[], [], [], [], [(46, 2), (47, 3)], [], [(48, 4), (49, 5)], [], [], [], [(53, 9)], [(52, 8), (54, 10)], [(51, 7), (55, 11)], [(50, 6), (56, 12)], [(44, 0), (45, 1)], [(44, 0), (45, 1), (46, 2), (47, 3), (48, 4), (49, 5), (50, 6), (51, 7), (52, 8), (53, 9), (54, 10), (55, 11), (56, 12), (57, 13), (58, 14)]] (relL [eqV _, eqV _, eqV _, eqV _, eqV _, eqV _, eqV _, eqV _, eqV _, eqV _, eqV _, eqV _, eqV _, eqV _, eqV _, fun v V => True]) (by kernel_rfl) (by kernel_rfl) ?_
    rotate_left 15
    refine FlowR.step ?_ ?_
    · intro V hV
      simp only [Dep, Act.put, List.setIfInBounds_toArray, List.set_cons_zero, List.set_cons_succ]
      intro K hK
      go_simp
      refine hK _ _ ?_ (Below.refl _ _)
      simp only [relL, List.getElem?_cons_zero, List.getElem?_cons_succ, eqV]
      exact rfl
    refine FlowR.step ?_ ?_
    · intro V hV
      simp only [Dep, Act.put, List.setIfInBounds_toArray, List.set_cons_zero, List.set_cons_succ]
      intro K hK
      go_simp
      refine hK _ _ ?_ (Below.refl _ _)
      simp only [relL, List.getElem?_cons_zero, List.getElem?_cons_succ, eqV]
      exact rfl
    refine FlowR.step ?_ ?_
    · intro V hV
      simp only [Dep, Act.put, List.setIfInBounds_toArray, List.set_cons_zero, List.set_cons_succ]
      intro K hK
      go_simp
      refine hK _ _ ?_ (Below.refl _ _)
      simp only [relL, List.getElem?_cons_zero, List.getElem?_cons_succ, eqV]
      exact rfl
    refine FlowR.step ?_ ?_
    · intro V hV
      simp only [Dep, Act.put, List.setIfInBounds_toArray, List.set_cons_zero, List.set_cons_succ]
      intro K hK
      go_simp
      refine hK _ _ ?_ (Below.refl _ _)
      simp only [relL, List.getElem?_cons_zero, List.getElem?_cons_succ, eqV]
      exact rfl
    refine FlowR.step ?_ ?_
    · intro V hV
      simp only [Dep, Act.put, List.setIfInBounds_toArray, List.set_cons_zero, List.set_cons_succ]
      rintro x46 ⟨V46, rfl, hb46⟩
      rintro x47 ⟨V47, rfl, hb47⟩
      intro K hK
      go_simp
      refine hK _ _ ?_ (Below.refl _ _)
      simp only [relL, List.getElem?_cons_zero, List.getElem?_cons_succ, eqV]
      exact rfl
    refine FlowR.step ?_ ?_
    · intro V hV
      simp only [Dep, Act.put, List.setIfInBounds_toArray, List.set_cons_zero, List.set_cons_succ]
      intro K hK
      go_simp
      refine hK _ _ ?_ (Below.refl _ _)
      simp only [relL, List.getElem?_cons_zero, List.getElem?_cons_succ, eqV]
      exact rfl
    refine FlowR.step ?_ ?_
    · intro V hV
      simp only [Dep, Act.put, List.setIfInBounds_toArray, List.set_cons_zero, List.set_cons_succ]
      rintro x48 ⟨V48, rfl, hb48⟩
      rintro x49 ⟨V49, rfl, hb49⟩
      intro K hK
      go_simp
      refine hK _ _ ?_ (Below.refl _ _)
      simp only [relL, List.getElem?_cons_zero, List.getElem?_cons_succ, eqV]
      exact rfl
    refine FlowR.step ?_ ?_
    · intro V hV
      simp only [Dep, Act.put, List.setIfInBounds_toArray, List.set_cons_zero, List.set_cons_succ]
      intro K hK
      go_simp
      refine hK _ _ ?_ (Below.refl _ _)
      simp only [relL, List.getElem?_cons_zero, List.getElem?_cons_succ, eqV]
      exact rfl
    refine FlowR.step ?_ ?_
    · intro V hV
      simp only [Dep, Act.put, List.setIfInBounds_toArray, List.set_cons_zero, List.set_cons_succ]
      intro K hK
      go_simp
      refine hK _ _ ?_ (Below.refl _ _)
      simp only [relL, List.getElem?_cons_zero, List.getElem?_cons_succ, eqV]
      exact rfl
    refine FlowR.step ?_ ?_
    · intro V hV
      simp only [Dep, Act.put, List.setIfInBounds_toArray, List.set_cons_zero, List.set_cons_succ]
      intro K hK
      go_simp
      refine hK _ _ ?_ (Below.refl _ _)
      simp only [relL, List.getElem?_cons_zero, List.getElem?_cons_succ, eqV]
      exact rfl
    refine FlowR.step ?_ ?_
    · intro V hV
      simp only [Dep, Act.put, List.setIfInBounds_toArray, List.set_cons_zero, List.set_cons_succ]
      rintro x53 ⟨V53, rfl, hb53⟩
      intro K hK
      go_simp
      refine hK _ _ ?_ (Below.refl _ _)
      simp only [relL, List.getElem?_cons_zero, List.getElem?_cons_succ, eqV]
      exact rfl
    refine FlowR.step ?_ ?_
    · intro V hV
      simp only [Dep, Act.put, List.setIfInBounds_toArray, List.set_cons_zero, List.set_cons_succ]
      rintro x52 ⟨V52, rfl, hb52⟩
      rintro x54 ⟨V54, rfl, hb54⟩
      intro K hK
      go_simp
      refine hK _ _ ?_ (Below.refl _ _)
      simp only [relL, List.getElem?_cons_zero, List.getElem?_cons_succ, eqV]
      exact rfl
    refine FlowR.step ?_ ?_
    · intro V hV
      simp only [Dep, Act.put, List.setIfInBounds_toArray, List.set_cons_zero, List.set_cons_succ]
      rintro x51 ⟨V51, rfl, hb51⟩
      rintro x55 ⟨V55, rfl, hb55⟩
      intro K hK
      go_simp
      refine hK _ _ ?_ (Below.refl _ _)
      simp only [relL, List.getElem?_cons_zero, List.getElem?_cons_succ, eqV]
      exact rfl
    refine FlowR.step ?_ ?_
    · intro V hV
      simp only [Dep, Act.put, List.setIfInBounds_toArray, List.set_cons_zero, List.set_cons_succ]
      rintro x50 ⟨V50, rfl, hb50⟩
      rintro x56 ⟨V56, rfl, hb56⟩
      intro K hK
      go_simp
      refine hK _ _ ?_ (Below.refl _ _)
      simp only [relL, List.getElem?_cons_zero, List.getElem?_cons_succ, eqV]
      exact rfl
    refine FlowR.step ?_ ?_
    · intro V hV
      simp only [Dep, Act.put, List.setIfInBounds_toArray, List.set_cons_zero, List.set_cons_succ]
      rintro x44 ⟨V44, rfl, hb44⟩
      rintro x45 ⟨V45, rfl, hb45⟩
      intro K hK
      go_simp
      refine hK _ _ ?_ (Below.refl _ _)
      simp only [relL, List.getElem?_cons_zero, List.getElem?_cons_succ, eqV]
      exact rfl
    refine FlowR.last ?_
    intro V hV
    simp only [Dep, Act.put, List.setIfInBounds_toArray, List.set_cons_zero, List.set_cons_succ]
    rintro x44 ⟨V44, rfl, hb44⟩
    rintro x45 ⟨V45, rfl, hb45⟩
    rintro x46 ⟨V46, rfl, hb46⟩
    rintro x47 ⟨V47, rfl, hb47⟩
    rintro x48 ⟨V48, rfl, hb48⟩
    rintro x49 ⟨V49, rfl, hb49⟩
    rintro x50 ⟨V50, rfl, hb50⟩
    rintro x51 ⟨V51, rfl, hb51⟩
    rintro x52 ⟨V52, rfl, hb52⟩
    rintro x53 ⟨V53, rfl, hb53⟩
    rintro x54 ⟨V54, rfl, hb54⟩
    rintro x55 ⟨V55, rfl, hb55⟩
    rintro x56 ⟨V56, rfl, hb56⟩
    rintro x57 ⟨V57, rfl, hb57⟩
    rintro x58 ⟨V58, rfl, hb58⟩
    intro K hK
    obtain ⟨cb, cf⟩ := KG.out V hV
    go_simp
    refine hK _ _ ?_
    clear hK K cb cf
    have KM5 := Lib.hid ((KM3.out.next hV).far (w1 := V.setCell ⟨g, b.toNat, none⟩ (.string (writeS s M t))) ((Below.refl _ _).setCell (p := ⟨g, b.toNat, none⟩) Kgb.out _))
    have hbn : b.toNat < I.banks.length * 1 := by omega
    have o1 := own_next KO1.out hV
    have KO1' := Lib.hid (own_store (u := .string (writeS s M t)) o1 b.toNat hbn)
    clear o1 KM3 KO1 KG hV hb44 V44 hb45 V45 hb46 V46 hb47 V47 hb48 V48 hb49 V49 hb50 V50 hb51 V51 hb52 V52 hb53 V53 hb54 V54 hb55 V55 hb56 V56 hb57 V57 hb58 V58
    rw [show (s.extract 0 M ++ t ++ s.extract (M + t.size) s.size) = writeS s M t from rfl]
    generalize V.setCell ⟨g, b.toNat, none⟩ (.string (writeS s M t)) = W5 at *
    have i0 := KM5.out.n 0 _ rfl
    have f0 := KM5.out.fn 0
    have KM6 := Lib.hid (KM5.out.set 0 (.slice (some ⟨g, 0, none⟩) I.banks.length e1))
    simp only [List.set_cons_zero] at KM6
    have hlt0 : w.heap.size < w.heap.size + 3 := by omega
    have KO6 := Lib.hid (own_set (j := 0) (u := (.slice (some ⟨g, 0, none⟩) I.banks.length e1)) KO1'.out hlt0)
    clear hlt0
    have n0 := KM6.out.n 0 _ rfl
    obtain ⟨u0, t0⟩ := KM6.out.t 0 (by decide)
    have g0 := KM6.out.ft 0
    have n1 := KM6.out.n 1 _ rfl
    obtain ⟨u1, t1⟩ := KM6.out.t 1 (by decide)
    have g1 := KM6.out.ft 1
    have n2 := KM6.out.n 2 _ rfl
    obtain ⟨u2, t2⟩ := KM6.out.t 2 (by decide)
    have g2 := KM6.out.ft 2
    have n3 := KM6.out.n 3 _ rfl
    obtain ⟨u3, t3⟩ := KM6.out.t 3 (by decide)
    have g3 := KM6.out.ft 3
    have n4 := KM6.out.n 4 _ rfl
    obtain ⟨u4, t4⟩ := KM6.out.t 4 (by decide)
    have g4 := KM6.out.ft 4
    have hlt : w.heap.size + 2 < w.heap.size + 3 := by omega
    have HS := Lib.hid (set5 (W5.setCell ⟨w.heap.size, 0, none⟩ (.slice (some ⟨g, 0, none⟩) I.banks.length e1)) (w.heap.size + 2) (.slice (some ⟨g, 0, none⟩) I.banks.length e1) (.int .u16 I.entry) (.int .u16 I.vector) (.slice p2 I.data.length p5) (.slice p3 I.relocs.length p6) _ _ _ _ _ t0 t1 t2 t3 t4)
    have KBF : Hid (Below w.heap.size w (setAll (w.heap.size + 2) [.slice (some ⟨g, 0, none⟩) I.banks.length e1, .int .u16 I.entry, .int .u16 I.vector, .slice p2 I.data.length p5, .slice p3 I.relocs.length p6] 0 (W5.setCell ⟨w.heap.size, 0, none⟩ (.slice (some ⟨g, 0, none⟩) I.banks.length e1)))) := Lib.hid (setAll_below (by omega) _ 0 _ KM6.out.below)
    have KQ1 := Lib.hid (setAll_own hlt [.slice (some ⟨g, 0, none⟩) I.banks.length e1, .int .u16 I.entry, .int .u16 I.vector, .slice p2 I.data.length p5, .slice p3 I.relocs.length p6] 0 _ KO6.out)
    simp only [setAll] at KBF KQ1
    clear hlt KO1' KO6 KM5
    go_wp2_with fail
    obtain ⟨x0, x1, x2, x3, x4⟩ := HS.out
    clear i0 f0 n0 n1 n2 n3 n4 t0 t1 t2 t3 t4 g0 g1 g2 g3 g4 HS KM6
    generalize ((((((W5.setCell ⟨w.heap.size, 0, none⟩ (.slice (some ⟨g, 0, none⟩) I.banks.length e1)).setCell ⟨w.heap.size + 2, 0, none⟩ (.slice (some ⟨g, 0, none⟩) I.banks.length e1)).setCell ⟨w.heap.size + 2, 1, none⟩ (.int .u16 I.entry)).setCell ⟨w.heap.size + 2, 2, none⟩ (.int .u16 I.vector)).setCell ⟨w.heap.size + 2, 3, none⟩ (.slice p2 I.data.length p5)).setCell ⟨w.heap.size + 2, 4, none⟩ (.slice p3 I.relocs.length p6)) = WF at *
    have hOw : OwnedImg { I with banks := I.banks.set b.toNat (writeS s M t) } (.agg #[.slice (some ⟨g, 0, none⟩) I.banks.length e1, .int .u16 I.entry, .int .u16 I.vector, .slice p2 I.data.length p5, .slice p3 I.relocs.length p6]) WF := owned_img KI.out KBF.out _ (by simp) (fun x hx => mem_set (P := fun x : ByteArray => x.size ≤ maxLen) hx (fun y hy => by have := KB.out y hy; unfold maxLen; omega) (by rw [writeS_size s M t (by omega)]; unfold maxLen; omega)) (by rw [List.length_set, List.map_set]; exact KQ1.out)
    exact bodyPost_ret (v := .tuple #[.agg #[.slice (some ⟨g, 0, none⟩) I.banks.length e1, .int .u16 I.entry, .int .u16 I.vector, .slice p2 I.data.length p5, .slice p3 I.relocs.length p6], .int .i64 0]) (by simp [results, Try.results41, go_sem, x0, x1, x2, x3, x4]) rfl (HR.out _ _ ⟨_, by rw [HV.out], by rw [HV.out]; exact hOw, KBF.out⟩)
  · have HV := Lib.hid (writeI_long I b a t (by rw [hbk, hM]; exact hfit))
    have hfb : decide ((s.size : Int) - M < (t.size : Int)) = true := decide_eq_true (by omega)
    clear hs hbk hM hok hfit
    obtain ⟨B1, hp1, hB1, hc1⟩ := KC.out
    subst hp1
    go_enter Try.func41, Try.ntmps41
    go_wp2_with fail
    generalize hW0 : (((w.alloc (Obj.cells #[.slice (some ⟨B1, 0, none⟩) I.banks.length p4, .int .u16 I.entry, .int .u16 I.vector, .slice p2 I.data.length p5, .slice p3 I.relocs.length p6] 30)).alloc (Obj.cells #[Value.int IntKind.i64 b, Value.int IntKind.u16 a] 55)).alloc (Obj.cells #[Value.slice none 0 0, Value.int IntKind.u16 0, Value.int IntKind.u16 0, Value.slice none 0 0, Value.slice none 0 0] 30)) = W0 at *
    have K0 : Hid (Below w.heap.size w W0) := Lib.hid (KZ.out W0 (Below.refl _ _)).below
    clear hW0
    refine (HO.out _ (KI.out.kept K0.out)).mono ?_
    rintro e w2 ⟨rfl, h2⟩
    have K2 := Lib.hid h2
    clear h2
    have cb := (K2.out.cell (p := ⟨B1, b.toNat, none⟩) (Nat.lt_of_lt_of_le hB1 K0.out.size)).trans ((K0.out.cell (p := ⟨B1, b.toNat, none⟩) hB1).trans hc1)
    clear hc1
    have hm := KZ.out _ K2.out
    have z0 := KP.out _ K2.out 0 _ rfl
    have g0 := hm.ft 0
    have z1 := KP.out _ K2.out 1 _ rfl
    have g1 := hm.ft 1
    have z2 := KP.out _ K2.out 2 _ rfl
    have g2 := hm.ft 2
    have z3 := KP.out _ K2.out 3 _ rfl
    have g3 := hm.ft 3
    have z4 := KP.out _ K2.out 4 _ rfl
    have g4 := hm.ft 4
    have i0 := hm.n 0 _ rfl
    have KM := Lib.hid hm
    clear hm
    have HS := Lib.hid (set5 w2 (w.heap.size + 2) (.slice none 0 0) (.int .u16 0) (.int .u16 0) (.slice none 0 0) (.slice none 0 0) _ _ _ _ _ z0 z1 z2 z3 z4)
    have KF : Hid (Below w.heap.size w (setAll (w.heap.size + 2) [.slice none 0 0, .int .u16 0, .int .u16 0, .slice none 0 0, .slice none 0 0] 0 w2)) := Lib.hid (setAll_below (by omega) _ 0 _ KM.out.below)
    simp only [setAll] at KF
    go_wp2_with fail
    obtain ⟨x0, x1, x2, x3, x4⟩ := HS.out
    clear z0 z1 z2 z3 z4 g0 g1 g2 g3 g4 HS i0
    generalize (((((w2.setCell ⟨w.heap.size + 2, 0, none⟩ (Value.slice none 0 0)).setCell ⟨w.heap.size + 2, 1, none⟩ (Value.int IntKind.u16 0)).setCell ⟨w.heap.size + 2, 2, none⟩ (Value.int IntKind.u16 0)).setCell ⟨w.heap.size + 2, 3, none⟩ (Value.slice none 0 0)).setCell ⟨w.heap.size + 2, 4, none⟩ (Value.slice none 0 0)) = WF at *
    exact bodyPost_ret (v := .tuple #[.agg #[.slice none 0 0, .int .u16 0, .int .u16 0, .slice none 0 0, .slice none 0 0], .int .i64 37]) (by simp [results, Try.results41, go_sem, x0, x1, x2, x3, x4]) rfl (HR.out _ _ ⟨_, by rw [HV.out], by rw [HV.out]; exact ⟨none, 0, none, 0, none, 0, rfl, empty_at _ _ _ _⟩, KF.out⟩)
end Go.Proofs.Ytgdiaaoekkdibaa
