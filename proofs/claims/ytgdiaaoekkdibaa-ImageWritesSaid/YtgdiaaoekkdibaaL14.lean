/- ImageWrites: the walk of the law. -/
import Derived.Test.YtgdiaaoekkdibaaT8
import Derived.Test.YtgdiaaoekkdibaaD2
import Derived.Test.YtgdiaaoekkdibaaE2
import Derived.Test.YtgdiaaoekkdibaaC5
namespace Go.Proofs.Ytgdiaaoekkdibaa
set_option linter.unusedVariables false
set_option linter.unusedSimpArgs false
open Go.RowKit
set_option maxRecDepth 8000 in
set_option maxHeartbeats 8000000 in
theorem imageWrites_walk (ps : Option Addr) (pc : Nat) (S : List Int) (a b : Int) (t : ByteArray) (w : World) (hlS : S.length ≤ 9223372036854775807) (hSS : IntsAt w ps S) (a0 : -9223372036854775808 ≤ a) (a1 : a ≤ 9223372036854775807) (b0 : -9223372036854775808 ≤ b) (b1 : b ≤ 9223372036854775807) (hzt : t.size ≤ 9223372036854775807) :
    Calls Try.prog 14 #[.slice ps S.length pc, .agg #[.int .i64 a, .int .i64 b], .string t] w fun e w' => e = .returned (.bool true) ∧ Below w.heap.size w w' := by
  have KSS := Lib.hid hSS
  have KLS := Lib.hid hlS
  have Ka : Hid (OkI64 a) := ⟨a0, a1⟩
  have Kb : Hid (OkI64 b) := ⟨b0, b1⟩
  clear hSS hlS a0 a1 b0 b1
  have KF := Lib.hid (fun V (hb : Below (w.alloc (Obj.cells #[.int .i64 a, .int .i64 b] 49)).heap.size (w.alloc (Obj.cells #[.int .i64 a, .int .i64 b] 49)) V) => And.intro (below_next (below1 w (Obj.cells #[.int .i64 a, .int .i64 b] 49)) hb) (one_box_2 w a b V hb))
  go_enter Try.func14, Try.ntmps14
  go_wp2_with fail
  have hw0 : (w.alloc (Obj.cells #[.int .i64 a, .int .i64 b] 49)).heap.size = w.heap.size + 1 := by simp
  generalize (w.alloc (Obj.cells #[.int .i64 a, .int .i64 b] 49)) = W0 at *
  have Kt := Lib.hid hzt
  refine (sanity_any _).mono ?_
  rintro e w1 ⟨rfl, h1⟩
  replace KF := Lib.hid (fun V (hb : Below w1.heap.size w1 V) => KF.out V (below_next (h1) hb))
  clear h1
  go_wp2_with fail
  refine (drawn_any ps pc S _ KLS.out (KSS.out.kept (KF.out _ (Below.refl _ _)).1)).mono ?_
  rintro e w2 ⟨I, p1, p4, p2, p5, p3, p6, rfl, hI, hc, l1, l2, l3, h2⟩
  have HF := Lib.hid (full_size hc)
  clear hc
  replace KF := Lib.hid (fun V (hb : Below (w2.alloc (Obj.cells #[.slice p1 I.banks.length p4, .int .u16 I.entry, .int .u16 I.vector, .slice p2 I.data.length p5, .slice p3 I.relocs.length p6] 30)).heap.size (w2.alloc (Obj.cells #[.slice p1 I.banks.length p4, .int .u16 I.entry, .int .u16 I.vector, .slice p2 I.data.length p5, .slice p3 I.relocs.length p6] 30)) V) => And.intro (And.intro (KF.out V (below_next (below_alloc h2 (Obj.cells #[.slice p1 I.banks.length p4, .int .u16 I.entry, .int .u16 I.vector, .slice p2 I.data.length p5, .slice p3 I.relocs.length p6] 30)) hb)) (laid_cells w2 (.slice p1 I.banks.length p4) (.int .u16 I.entry) (.int .u16 I.vector) (.slice p2 I.data.length p5) (.slice p3 I.relocs.length p6) V hb)) ((hI.kept (below1 w2 (Obj.cells #[.slice p1 I.banks.length p4, .int .u16 I.entry, .int .u16 I.vector, .slice p2 I.data.length p5, .slice p3 I.relocs.length p6] 30))).kept hb))
  clear hI h2
  simp only [imgV]
  obtain ⟨iv, iw, ix, iy, iz⟩ := (KF.out _ (Below.refl _ _)).1.2
  go_wp2_with fail
  generalize w2.alloc (Obj.cells #[.slice p1 I.banks.length p4, .int .u16 I.entry, .int .u16 I.vector, .slice p2 I.data.length p5, .slice p3 I.relocs.length p6] 30) = V1 at *
  clear iv iw ix iy iz
  refine (own_img p1 p4 p2 p5 p3 p6 I _ (KF.out _ (Below.refl _ _)).2 (by omega) (by omega) (by omega)).mono ?_
  rintro e w3 ⟨v3, rfl, ⟨k1, k4, k2, k5, k3, k6, rfl, hK⟩, h3⟩
  replace KF := Lib.hid (fun V (hb : Below (w3.alloc (Obj.cells #[.slice k1 I.banks.length k4, .int .u16 I.entry, .int .u16 I.vector, .slice k2 I.data.length k5, .slice k3 I.relocs.length k6] 30)).heap.size (w3.alloc (Obj.cells #[.slice k1 I.banks.length k4, .int .u16 I.entry, .int .u16 I.vector, .slice k2 I.data.length k5, .slice k3 I.relocs.length k6] 30)) V) => And.intro (And.intro (KF.out V (below_next (below_alloc h3 (Obj.cells #[.slice k1 I.banks.length k4, .int .u16 I.entry, .int .u16 I.vector, .slice k2 I.data.length k5, .slice k3 I.relocs.length k6] 30)) hb)) (laid_cells w3 (.slice k1 I.banks.length k4) (.int .u16 I.entry) (.int .u16 I.vector) (.slice k2 I.data.length k5) (.slice k3 I.relocs.length k6) V hb)) ((hK.kept (below1 w3 (Obj.cells #[.slice k1 I.banks.length k4, .int .u16 I.entry, .int .u16 I.vector, .slice k2 I.data.length k5, .slice k3 I.relocs.length k6] 30))).kept hb))
  clear hK h3
  simp only [imgV]
  go_wp2_with fail
  generalize w3.alloc (Obj.cells #[.slice k1 I.banks.length k4, .int .u16 I.entry, .int .u16 I.vector, .slice k2 I.data.length k5, .slice k3 I.relocs.length k6] 30) = V2 at *
  have hw0b : IntKind.i64.wrap (a % 5 - 1) = a % 5 - 1 := IntWalk.i64_in _ (by omega)
  have hw1b : IntKind.u16.wrap (b % 8300) = b % 8300 := wrap_in _ (by omega) (by omega)
  refine' wp_region_flowR [[], [(23, 0)], [(24, 1)], [(25, 2)], [], [(27, 4)], [(28, 5)], [(29, 6)], [(26, 3), (30, 7)], [], [(23, 0), (24, 1), (25, 2), (26, 3), (27, 4), (28, 5), (29, 6), (30, 7), (31, 8), (10, 9)]] (relL [eqV _, eqV _, eqV _, eqV _, eqV _, eqV _, eqV _, eqV _, eqV _, ptrTo (Obj.cells #[Value.int IntKind.i64 0, Value.int IntKind.u16 0] 55) V2, fun v V => True]) (by kernel_rfl) (by kernel_rfl) ?_
  rotate_left 9
  refine FlowR.step ?_ ?_
  · intro V hV
    simp only [Dep, Act.put, List.setIfInBounds_toArray, List.set_cons_zero, List.set_cons_succ]
    intro K hK
    go_simp
    refine hK _ _ ?_ (Below.refl _ _)
    simp only [relL, List.getElem?_cons_zero, List.getElem?_cons_succ, eqV]
    exact rfl
  refine FlowR.step ?_ ?_
  · intro V hV
    simp only [Dep, Act.put, List.setIfInBounds_toArray, List.set_cons_zero, List.set_cons_succ]
    rintro x23 ⟨V23, rfl, hb23⟩
    intro K hK
    obtain ⟨ea, eb⟩ := (KF.out V (hV)).1.1.1.1.2
    go_simp
    refine hK _ _ ?_ (Below.refl _ _)
    simp only [relL, List.getElem?_cons_zero, List.getElem?_cons_succ, eqV]
    exact rfl
  refine FlowR.step ?_ ?_
  · intro V hV
    simp only [Dep, Act.put, List.setIfInBounds_toArray, List.set_cons_zero, List.set_cons_succ]
    rintro x24 ⟨V24, rfl, hb24⟩
    intro K hK
    go_simp
    go_at_call 20
    refine (mod_any a 5 V Ka.out (by decide) (by decide)).mono ?_
    rintro e w9 ⟨rfl, rfl⟩
    refine hK _ _ ?_ (Below.refl _ _)
    simp only [relL, List.getElem?_cons_zero, List.getElem?_cons_succ, eqV]
    exact rfl
  refine FlowR.step ?_ ?_
  · intro V hV
    simp only [Dep, Act.put, List.setIfInBounds_toArray, List.set_cons_zero, List.set_cons_succ]
    rintro x25 ⟨V25, rfl, hb25⟩
    intro K hK
    go_simp
    refine hK _ _ ?_ (Below.refl _ _)
    simp only [relL, List.getElem?_cons_zero, List.getElem?_cons_succ, eqV]
    exact rfl
  refine FlowR.step ?_ ?_
  · intro V hV
    simp only [Dep, Act.put, List.setIfInBounds_toArray, List.set_cons_zero, List.set_cons_succ]
    intro K hK
    go_simp
    refine hK _ _ ?_ (Below.refl _ _)
    simp only [relL, List.getElem?_cons_zero, List.getElem?_cons_succ, eqV]
    exact rfl
  refine FlowR.step ?_ ?_
  · intro V hV
    simp only [Dep, Act.put, List.setIfInBounds_toArray, List.set_cons_zero, List.set_cons_succ]
    rintro x27 ⟨V27, rfl, hb27⟩
    intro K hK
    obtain ⟨ea, eb⟩ := (KF.out V (hV)).1.1.1.1.2
    go_simp
    refine hK _ _ ?_ (Below.refl _ _)
    simp only [relL, List.getElem?_cons_zero, List.getElem?_cons_succ, eqV]
    exact rfl
  refine FlowR.step ?_ ?_
  · intro V hV
    simp only [Dep, Act.put, List.setIfInBounds_toArray, List.set_cons_zero, List.set_cons_succ]
    rintro x28 ⟨V28, rfl, hb28⟩
    intro K hK
    go_simp
    go_at_call 20
    refine (mod_any b 8300 V Kb.out (by decide) (by decide)).mono ?_
    rintro e w9 ⟨rfl, rfl⟩
    refine hK _ _ ?_ (Below.refl _ _)
    simp only [relL, List.getElem?_cons_zero, List.getElem?_cons_succ, eqV]
    exact rfl
  refine FlowR.step ?_ ?_
  · intro V hV
    simp only [Dep, Act.put, List.setIfInBounds_toArray, List.set_cons_zero, List.set_cons_succ]
    rintro x29 ⟨V29, rfl, hb29⟩
    intro K hK
    go_simp
    refine hK _ _ ?_ (Below.refl _ _)
    simp only [relL, List.getElem?_cons_zero, List.getElem?_cons_succ, eqV]
    exact rfl
  refine FlowR.step ?_ ?_
  · intro V hV
    simp only [Dep, Act.put, List.setIfInBounds_toArray, List.set_cons_zero, List.set_cons_succ]
    rintro x26 ⟨V26, rfl, hb26⟩
    rintro x30 ⟨V30, rfl, hb30⟩
    intro K hK
    go_simp
    refine hK _ _ ?_ (Below.refl _ _)
    simp only [relL, List.getElem?_cons_zero, List.getElem?_cons_succ, eqV]
    exact rfl
  refine FlowR.step ?_ ?_
  · intro V hV
    simp only [Dep, Act.put, List.setIfInBounds_toArray, List.set_cons_zero, List.set_cons_succ]
    intro K hK
    go_simp
    exact hK _ _ (ptr_at hV) (below1 _ _)
  refine FlowR.last ?_
  intro V hV
  simp only [Dep, Act.put, List.setIfInBounds_toArray, List.set_cons_zero, List.set_cons_succ]
  rintro x23 ⟨V23, rfl, hb23⟩
  rintro x24 ⟨V24, rfl, hb24⟩
  rintro x25 ⟨V25, rfl, hb25⟩
  rintro x26 ⟨V26, rfl, hb26⟩
  rintro x27 ⟨V27, rfl, hb27⟩
  rintro x28 ⟨V28, rfl, hb28⟩
  rintro x29 ⟨V29, rfl, hb29⟩
  rintro x30 ⟨V30, rfl, hb30⟩
  rintro x31 ⟨V31, rfl, hb31⟩
  rintro x10 ⟨V10, ⟨WL, rfl, rfl, hWL⟩, hb10⟩
  intro K hK
  obtain ⟨z0, g0⟩ := made_cells hb10 0 _ rfl
  obtain ⟨z1, g1⟩ := made_cells hb10 1 _ rfl
  obtain ⟨hB2, hC2⟩ := stored hb10 hWL [.int .i64 (a % 5 - 1), .int .u16 (b % 8300)] rfl
  simp only [setAll] at hB2 hC2
  go_simp
  refine hK _ _ ?_
  clear hK K z0 z1 g0 g1
  generalize (V.setCell ⟨WL.heap.size, 0, none⟩ (.int .i64 (a % 5 - 1))).setCell ⟨WL.heap.size, 1, none⟩ (.int .u16 (b % 8300)) = W3 at *
  replace KF := Lib.hid (fun V (hb : Below W3.heap.size W3 V) => And.intro (KF.out V (below_next hB2 hb)) (hC2 V hb))
  clear hB2 hC2 hb10 hWL hV
  clear hb23 V23 hb24 V24 hb25 V25 hb26 V26 hb27 V27 hb28 V28 hb29 V29 hb30 V30 hb31 V31
  clear V
  clear hw0b hw1b
  have KA : Hid (OkI64 (a % 5 - 1)) := ⟨by omega, by omega⟩
  have KB : Hid (OkU16 (b % 8300)) := ⟨by omega, by omega⟩
  generalize a % 5 - 1 = pb at *
  generalize b % 8300 = pa at *
  have hx0 : 0 ≤ min (t.size : Int) 100 := by omega
  have hx1 : min (t.size : Int) 100 ≤ t.size := by omega
  have hsx : (t.extract 0 (min (t.size : Int) 100).toNat).size ≤ 100 := by rw [ByteArray.size_extract]; omega
  obtain ⟨iv, iw, ix, iy, iz⟩ := (KF.out _ (Below.refl _ _)).1.1.1.1.2
  have l0 := (KF.out _ (Below.refl _ _)).2 0 _ rfl
  have l1' := (KF.out _ (Below.refl _ _)).2 1 _ rfl
  go_wp2_with fail
  clear iv iw ix iy iz
  clear l0 l1'
  generalize t.extract 0 (min (t.size : Int) 100).toNat = X at *
  clear hx0 hx1
  generalize hWr : writeI I pb pa X = Wr
  obtain ⟨J, cd⟩ := Wr
  have KWr := Lib.hid hWr
  clear hWr
  refine (write_any p1 p4 p2 p5 p3 p6 I pb pa X _ (KF.out _ (Below.refl _ _)).1.1.1.2 KA.out KB.out (by omega) (by omega) (by omega) (by omega) HF.out (WritePost I pb pa X W3) (Lib.hid fun _ _ h => h)).mono ?_
  rintro e w4 ⟨v4, rfl, hO4, h4⟩
  rw [KWr.out] at hO4
  obtain ⟨a1, a4, a2, a5, a3, a6, rfl, hA⟩ := hO4
  rw [KWr.out]
  replace KF := Lib.hid (fun V (hb : Below (w4.alloc (Obj.cells #[.slice a1 J.banks.length a4, .int .u16 J.entry, .int .u16 J.vector, .slice a2 J.data.length a5, .slice a3 J.relocs.length a6] 30)).heap.size (w4.alloc (Obj.cells #[.slice a1 J.banks.length a4, .int .u16 J.entry, .int .u16 J.vector, .slice a2 J.data.length a5, .slice a3 J.relocs.length a6] 30)) V) => And.intro (And.intro (KF.out V (below_next (below_alloc h4 (Obj.cells #[.slice a1 J.banks.length a4, .int .u16 J.entry, .int .u16 J.vector, .slice a2 J.data.length a5, .slice a3 J.relocs.length a6] 30)) hb)) (laid_cells w4 (.slice a1 J.banks.length a4) (.int .u16 J.entry) (.int .u16 J.vector) (.slice a2 J.data.length a5) (.slice a3 J.relocs.length a6) V hb)) ((hA.kept (below1 w4 (Obj.cells #[.slice a1 J.banks.length a4, .int .u16 J.entry, .int .u16 J.vector, .slice a2 J.data.length a5, .slice a3 J.relocs.length a6] 30))).kept hb))
  clear hA h4
  simp only [imgV]
  obtain ⟨iv, iw, ix, iy, iz⟩ := (KF.out _ (Below.refl _ _)).1.1.1.1.1.1.2
  have l0 := (KF.out _ (Below.refl _ _)).1.1.2 0 _ rfl
  have l1' := (KF.out _ (Below.refl _ _)).1.1.2 1 _ rfl
  go_wp2_with fail
  clear iv iw ix iy iz
  clear l0 l1'
  generalize w4.alloc (Obj.cells #[.slice a1 J.banks.length a4, .int .u16 J.entry, .int .u16 J.vector, .slice a2 J.data.length a5, .slice a3 J.relocs.length a6] 30) = V3 at *
  refine (rwrite_any p1 p4 p2 p5 p3 p6 I pb pa X _ (KF.out _ (Below.refl _ _)).1.1.1.1.1.2 KA.out KB.out (by omega) (by omega) (by omega) (by omega) HF.out (WritePost I pb pa X V3) (Lib.hid fun _ _ h => h)).mono ?_
  rintro e w5 ⟨v5, rfl, hO5, h5⟩
  rw [KWr.out] at hO5
  obtain ⟨b1, b4, b2, b5, b3, b6, rfl, hB⟩ := hO5
  rw [KWr.out]
  replace KF := Lib.hid (fun V (hb : Below (w5.alloc (Obj.cells #[.slice b1 J.banks.length b4, .int .u16 J.entry, .int .u16 J.vector, .slice b2 J.data.length b5, .slice b3 J.relocs.length b6] 30)).heap.size (w5.alloc (Obj.cells #[.slice b1 J.banks.length b4, .int .u16 J.entry, .int .u16 J.vector, .slice b2 J.data.length b5, .slice b3 J.relocs.length b6] 30)) V) => And.intro (And.intro (KF.out V (below_next (below_alloc h5 (Obj.cells #[.slice b1 J.banks.length b4, .int .u16 J.entry, .int .u16 J.vector, .slice b2 J.data.length b5, .slice b3 J.relocs.length b6] 30)) hb)) (laid_cells w5 (.slice b1 J.banks.length b4) (.int .u16 J.entry) (.int .u16 J.vector) (.slice b2 J.data.length b5) (.slice b3 J.relocs.length b6) V hb)) ((hB.kept (below1 w5 (Obj.cells #[.slice b1 J.banks.length b4, .int .u16 J.entry, .int .u16 J.vector, .slice b2 J.data.length b5, .slice b3 J.relocs.length b6] 30))).kept hb))
  clear hB h5
  simp only [imgV]
  obtain ⟨av, aw, ax, ay, az⟩ := (KF.out _ (Below.refl _ _)).1.1.1.2
  obtain ⟨bqv, bqw, bqx, bqy, bqz⟩ := (KF.out _ (Below.refl _ _)).1.2
  go_wp2_with fail
  clear av aw ax ay az bqv bqw bqx bqy bqz
  generalize w5.alloc (Obj.cells #[.slice b1 J.banks.length b4, .int .u16 J.entry, .int .u16 J.vector, .slice b2 J.data.length b5, .slice b3 J.relocs.length b6] 30) = V4 at *
  refine (rsame_self a1 a4 a2 a5 a3 a6 b1 b4 b2 b5 b3 b6 J _ (KF.out _ (Below.refl _ _)).1.1.2 (KF.out _ (Below.refl _ _)).2).mono ?_
  rintro e w6 ⟨rfl, h6⟩
  replace KF := Lib.hid (fun V (hb : Below w6.heap.size w6 V) => KF.out V (below_next (h6) hb))
  clear h6
  obtain ⟨iv, iw, ix, iy, iz⟩ := (KF.out _ (Below.refl _ _)).1.1.1.1.1.1.1.1.2
  obtain ⟨kv, kw, kx, ky, kz⟩ := (KF.out _ (Below.refl _ _)).1.1.1.1.1.1.2
  go_wp2_with fail
  clear iv iw ix iy iz kv kw kx ky kz
  refine (rsame_self p1 p4 p2 p5 p3 p6 k1 k4 k2 k5 k3 k6 I _ (KF.out _ (Below.refl _ _)).1.1.1.1.1.1.1.2 (KF.out _ (Below.refl _ _)).1.1.1.1.1.2).mono ?_
  rintro e w7 ⟨rfl, h7⟩
  replace KF := Lib.hid (fun V (hb : Below w7.heap.size w7 V) => KF.out V (below_next (h7) hb))
  clear h7
  have KW := Lib.hid (KF.out _ (Below.refl _ _)).1.1.1.1.1.1.1.1.1.1
  by_cases hcd : cd = 0
  · have hcb : (cd == 0) = true := by simpa using hcd
    have hcb2 : (cd != 0) = false := by simpa using hcd
    have KX := Lib.hid (code_after I J pb pa X (by rw [KWr.out, hcd]))
    clear hcd
    obtain ⟨av, aw, ax, ay, az⟩ := (KF.out _ (Below.refl _ _)).1.1.1.2
    have l0 := (KF.out _ (Below.refl _ _)).1.1.1.1.2 0 _ rfl
    have l1' := (KF.out _ (Below.refl _ _)).1.1.1.1.2 1 _ rfl
    go_wp2_with fail
    clear l0 l1'
    clear av aw ax ay az
    refine (code1_any a1 a4 a2 a5 a3 a6 J pb pa X.size _ (KF.out _ (Below.refl _ _)).1.1.2 KA.out KB.out ⟨by omega, by omega⟩).mono ?_
    rintro e w8 ⟨rfl, h8⟩
    rw [KX.out]
    have KE := Lib.hid (below_next KW.out h8)
    clear h8
    have hxx : (X.toList == X.toList) = true := by simp
    go_wp2_with fail
    go_ret
    exact ⟨rfl, KE.out⟩
  · have hcb : (cd == 0) = false := by simpa using hcd
    have hcb2 : (cd != 0) = true := by simpa using hcd
    clear hcd
    go_wp2_with fail
    go_ret
    exact ⟨rfl, KW.out⟩
end Go.Proofs.Ytgdiaaoekkdibaa
