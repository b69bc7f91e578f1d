/- ImageSame: the walk of the law. -/
import Derived.Test.YtgdiaaoekkdibaaT8
import Derived.Test.YtgdiaaoekkdibaaD2
import Derived.Test.YtgdiaaoekkdibaaE2
import Derived.Test.YtgdiaaoekkdibaaR1
namespace Go.Proofs.Ytgdiaaoekkdibaa
set_option linter.unusedVariables false
set_option linter.unusedSimpArgs false
open Go.RowKit
def EmptyAt (v : Value) (_ : World) : Prop := ∃ g : Nat, v = .slice (some ⟨g, 0, none⟩) 0 0
set_option maxRecDepth 8000 in
set_option maxHeartbeats 8000000 in
theorem imageSame_walk (ps : Option Addr) (pc : Nat) (S : List Int) (pt : Option Addr) (tc : Nat) (T : List Int) (x y z : Int) (w : World) (hlS : S.length ≤ 9223372036854775807) (hSS : IntsAt w ps S) (hlT : T.length ≤ 9223372036854775807) (hST : IntsAt w pt T) (x0 : -9223372036854775808 ≤ x) (x1 : x ≤ 9223372036854775807) (y0 : -9223372036854775808 ≤ y) (y1 : y ≤ 9223372036854775807) (z0 : -9223372036854775808 ≤ z) (z1 : z ≤ 9223372036854775807) :
    Calls Try.prog 13 #[.slice ps S.length pc, .slice pt T.length tc, .agg #[.int .i64 x, .int .i64 y, .int .i64 z]] w fun e w' => e = .returned (.bool true) ∧ Below w.heap.size w w' := by
  have KSS := Lib.hid hSS
  have KLS := Lib.hid hlS
  have KST := Lib.hid hST
  have KLT := Lib.hid hlT
  have Kx : Hid (OkI64 x) := ⟨x0, x1⟩
  have Ky : Hid (OkI64 y) := ⟨y0, y1⟩
  have Kz : Hid (OkI64 z) := ⟨z0, z1⟩
  clear hSS hlS hST hlT x0 x1 y0 y1 z0 z1
  have KF := Lib.hid (fun V (hb : Below (w.alloc (Obj.cells #[.int .i64 x, .int .i64 y, .int .i64 z] 23)).heap.size (w.alloc (Obj.cells #[.int .i64 x, .int .i64 y, .int .i64 z] 23)) V) => And.intro (below_next (below1 w (Obj.cells #[.int .i64 x, .int .i64 y, .int .i64 z] 23)) hb) (one_box_3 w x y z V hb))
  go_enter Try.func13, Try.ntmps13
  go_wp2_with fail
  have hw0 : (w.alloc (Obj.cells #[.int .i64 x, .int .i64 y, .int .i64 z] 23)).heap.size = w.heap.size + 1 := by simp
  generalize (w.alloc (Obj.cells #[.int .i64 x, .int .i64 y, .int .i64 z] 23)) = W0 at *
  refine (sanity_any _).mono ?_
  rintro e w1 ⟨rfl, h1⟩
  replace KF := Lib.hid (fun V (hb : Below w1.heap.size w1 V) => KF.out V (below_next (h1) hb))
  clear h1
  go_wp2_with fail
  refine (drawn_any ps pc S _ KLS.out (KSS.out.kept (KF.out _ (Below.refl _ _)).1)).mono ?_
  rintro e w2 ⟨I, p1, p4, p2, p5, p3, p6, rfl, hI, hc, l1, l2, l3, h2⟩
  have HF := Lib.hid (full_size hc)
  clear hc
  replace KF := Lib.hid (fun V (hb : Below (w2.alloc (Obj.cells #[.slice p1 I.banks.length p4, .int .u16 I.entry, .int .u16 I.vector, .slice p2 I.data.length p5, .slice p3 I.relocs.length p6] 30)).heap.size (w2.alloc (Obj.cells #[.slice p1 I.banks.length p4, .int .u16 I.entry, .int .u16 I.vector, .slice p2 I.data.length p5, .slice p3 I.relocs.length p6] 30)) V) => And.intro (And.intro (KF.out V (below_next (below_alloc h2 (Obj.cells #[.slice p1 I.banks.length p4, .int .u16 I.entry, .int .u16 I.vector, .slice p2 I.data.length p5, .slice p3 I.relocs.length p6] 30)) hb)) (laid_cells w2 (.slice p1 I.banks.length p4) (.int .u16 I.entry) (.int .u16 I.vector) (.slice p2 I.data.length p5) (.slice p3 I.relocs.length p6) V hb)) ((hI.kept (below1 w2 (Obj.cells #[.slice p1 I.banks.length p4, .int .u16 I.entry, .int .u16 I.vector, .slice p2 I.data.length p5, .slice p3 I.relocs.length p6] 30))).kept hb))
  clear hI h2
  simp only [imgV]
  go_wp2_with fail
  generalize w2.alloc (Obj.cells #[.slice p1 I.banks.length p4, .int .u16 I.entry, .int .u16 I.vector, .slice p2 I.data.length p5, .slice p3 I.relocs.length p6] 30) = V1 at *
  refine (drawn_any pt tc T _ KLT.out (KST.out.kept (KF.out _ (Below.refl _ _)).1.1.1)).mono ?_
  rintro e w3 ⟨X, r1, r4, r2, r5, r3, r6, rfl, hX, _, k1, k2, k3, h3⟩
  replace KF := Lib.hid (fun V (hb : Below (w3.alloc (Obj.cells #[.slice r1 X.banks.length r4, .int .u16 X.entry, .int .u16 X.vector, .slice r2 X.data.length r5, .slice r3 X.relocs.length r6] 30)).heap.size (w3.alloc (Obj.cells #[.slice r1 X.banks.length r4, .int .u16 X.entry, .int .u16 X.vector, .slice r2 X.data.length r5, .slice r3 X.relocs.length r6] 30)) V) => And.intro (And.intro (KF.out V (below_next (below_alloc h3 (Obj.cells #[.slice r1 X.banks.length r4, .int .u16 X.entry, .int .u16 X.vector, .slice r2 X.data.length r5, .slice r3 X.relocs.length r6] 30)) hb)) (laid_cells w3 (.slice r1 X.banks.length r4) (.int .u16 X.entry) (.int .u16 X.vector) (.slice r2 X.data.length r5) (.slice r3 X.relocs.length r6) V hb)) ((hX.kept (below1 w3 (Obj.cells #[.slice r1 X.banks.length r4, .int .u16 X.entry, .int .u16 X.vector, .slice r2 X.data.length r5, .slice r3 X.relocs.length r6] 30))).kept hb))
  clear hX h3
  simp only [imgV]
  obtain ⟨iv, iw, ix, iy, iz⟩ := (KF.out _ (Below.refl _ _)).1.1.1.2
  obtain ⟨ex, ey, ez⟩ := (KF.out _ (Below.refl _ _)).1.1.1.1.2
  go_wp2_with fail
  generalize w3.alloc (Obj.cells #[.slice r1 X.banks.length r4, .int .u16 X.entry, .int .u16 X.vector, .slice r2 X.data.length r5, .slice r3 X.relocs.length r6] 30) = V2 at *
  clear iv iw ix iy iz ex ey ez
  refine (turned_any p1 p4 p2 p5 p3 p6 I x y z _ (KF.out _ (Below.refl _ _)).1.1.2 HF.out (by omega) (by omega) (by omega) Kx.out Ky.out Kz.out (TurnedPost I V2) (Lib.hid fun _ _ h => h)).mono ?_
  rintro e w4 ⟨Y, q1, q4, q2, q5, q3, q6, rfl, hY, _, m1, m2, m3, h4⟩
  replace KF := Lib.hid (fun V (hb : Below (w4.alloc (Obj.cells #[.slice q1 Y.banks.length q4, .int .u16 Y.entry, .int .u16 Y.vector, .slice q2 Y.data.length q5, .slice q3 Y.relocs.length q6] 30)).heap.size (w4.alloc (Obj.cells #[.slice q1 Y.banks.length q4, .int .u16 Y.entry, .int .u16 Y.vector, .slice q2 Y.data.length q5, .slice q3 Y.relocs.length q6] 30)) V) => And.intro (And.intro (KF.out V (below_next (below_alloc h4 (Obj.cells #[.slice q1 Y.banks.length q4, .int .u16 Y.entry, .int .u16 Y.vector, .slice q2 Y.data.length q5, .slice q3 Y.relocs.length q6] 30)) hb)) (laid_cells w4 (.slice q1 Y.banks.length q4) (.int .u16 Y.entry) (.int .u16 Y.vector) (.slice q2 Y.data.length q5) (.slice q3 Y.relocs.length q6) V hb)) ((hY.kept (below1 w4 (Obj.cells #[.slice q1 Y.banks.length q4, .int .u16 Y.entry, .int .u16 Y.vector, .slice q2 Y.data.length q5, .slice q3 Y.relocs.length q6] 30))).kept hb))
  clear hY h4
  simp only [imgV]
  go_wp2_with fail
  generalize w4.alloc (Obj.cells #[.slice q1 Y.banks.length q4, .int .u16 Y.entry, .int .u16 Y.vector, .slice q2 Y.data.length q5, .slice q3 Y.relocs.length q6] 30) = V3 at *
  refine' wp_region_flowR [[], [(19, 0)], [(20, 1)], [(20, 1)], [(22, 3), (20, 1)], [(21, 2), (23, 4), (20, 1)], [(20, 1), (24, 5)], [(25, 6)], [(26, 7)], [(26, 7)], [(27, 8), (28, 9), (26, 7)], [(26, 7)], [(26, 7)], [(30, 11), (31, 12), (26, 7)], [(29, 10), (32, 13), (26, 7)], [(26, 7), (33, 14)], [(34, 15)], [(35, 16)], [(35, 16)], [(36, 17), (37, 18), (35, 16)], [(35, 16)], [(35, 16)], [(39, 20), (40, 21), (35, 16)], [(38, 19), (41, 22), (35, 16)], [(35, 16), (42, 23)], [(43, 24)], [(44, 25)], [(44, 25)], [(45, 26), (46, 27), (44, 25)], [(44, 25)], [(44, 25)], [(48, 29), (49, 30), (44, 25)], [(47, 28), (50, 31), (44, 25)], [(44, 25), (51, 32)], [(52, 33)], [(53, 34)], [(53, 34)], [(53, 34)], [(55, 36), (56, 37), (53, 34)], [(54, 35), (57, 38), (53, 34)], [(53, 34), (58, 39)], [(59, 40)], [(60, 41)], [(61, 42), (60, 41)], [(60, 41), (62, 43)], [(19, 0), (20, 1), (21, 2), (22, 3), (23, 4), (24, 5), (25, 6), (26, 7), (27, 8), (28, 9), (29, 10), (30, 11), (31, 12), (32, 13), (33, 14), (34, 15), (35, 16), (36, 17), (37, 18), (38, 19), (39, 20), (40, 21), (41, 22), (42, 23), (43, 24), (44, 25), (45, 26), (46, 27), (47, 28), (48, 29), (49, 30), (50, 31), (51, 32), (52, 33), (53, 34), (54, 35), (55, 36), (56, 37), (57, 38), (58, 39), (59, 40), (60, 41), (61, 42), (62, 43), (63, 44)]] (relL [eqV _, eqV _, eqV _, eqV _, OwnedImg I, eqV _, eqV _, eqV _, eqV _, eqV _, eqV _, eqV _, eqV _, eqV _, eqV _, eqV _, eqV _, eqV _, eqV _, eqV _, eqV _, eqV _, eqV _, eqV _, eqV _, eqV _, eqV _, eqV _, eqV _, eqV _, eqV _, eqV _, eqV _, eqV _, eqV _, eqV _, EmptyAt, EmptyAt, OwnedImg emptyI, eqV _, eqV _, eqV _, eqV _, eqV _, eqV _, fun v V => True]) (by kernel_rfl) (by kernel_rfl) ?_
  rotate_left 41
  refine FlowR.step (fun V hV => ?_) ?_
  · simp only [Dep, Act.put, List.setIfInBounds_toArray, List.set_cons_zero, List.set_cons_succ]
    intro K hK
    go_simp
    refine hK _ _ ?_ (Below.refl _ _)
    simp only [relL, List.getElem?_cons_zero, List.getElem?_cons_succ, eqV]
    exact rfl
  refine FlowR.step (fun V hV => ?_) ?_
  · simp only [Dep, Act.put, List.setIfInBounds_toArray, List.set_cons_zero, List.set_cons_succ]
    rintro x19 ⟨V19, rfl, hb19⟩
    intro K hK
    go_simp
    refine hK _ _ ?_ (Below.refl _ _)
    simp only [relL, List.getElem?_cons_zero, List.getElem?_cons_succ, eqV]
    exact rfl
  refine FlowR.step (fun V hV => ?_) ?_
  · simp only [Dep, Act.put, List.setIfInBounds_toArray, List.set_cons_zero, List.set_cons_succ]
    rintro x20 ⟨V20, rfl, hb20⟩
    intro K hK
    obtain ⟨iv, iw, ix, iy, iz⟩ := (KF.out V (hV)).1.1.1.1.1.2
    go_simp
    refine hK _ _ ?_ (Below.refl _ _)
    simp only [relL, List.getElem?_cons_zero, List.getElem?_cons_succ, eqV]
    exact rfl
  refine FlowR.step (fun V hV => ?_) ?_
  · simp only [Dep, Act.put, List.setIfInBounds_toArray, List.set_cons_zero, List.set_cons_succ]
    rintro x20 ⟨V20, rfl, hb20⟩
    intro K hK
    obtain ⟨iv, iw, ix, iy, iz⟩ := (KF.out V (hV)).1.1.1.1.1.2
    go_simp
    refine hK _ _ ?_ (Below.refl _ _)
    simp only [relL, List.getElem?_cons_zero, List.getElem?_cons_succ, eqV]
    exact rfl
  refine FlowR.step (fun V hV => ?_) ?_
  · simp only [Dep, Act.put, List.setIfInBounds_toArray, List.set_cons_zero, List.set_cons_succ]
    rintro x22 ⟨V22, rfl, hb22⟩
    rintro x20 ⟨V20, rfl, hb20⟩
    intro K hK
    go_simp
    go_at_call 38
    refine (own_img p1 p4 p2 p5 p3 p6 I V (KF.out V (hV)).1.1.1.1.2 (by omega) (by omega) (by omega)).mono ?_
    rintro e w9 ⟨v, rfl, ho, h9⟩
    exact hK _ _ (ho) h9
  refine FlowR.step (fun V hV => ?_) ?_
  · simp only [Dep, Act.put, List.setIfInBounds_toArray, List.set_cons_zero, List.set_cons_succ]
    rintro x21 ⟨V21, rfl, hb21⟩
    rintro x23 ⟨V23, ⟨o1, o4, o2, o5, o3, o6, rfl, ho⟩, hb23⟩
    rintro x20 ⟨V20, rfl, hb20⟩
    intro K hK
    go_simp
    go_at_call 37
    refine (same_self p1 p4 p2 p5 p3 p6 o1 o4 o2 o5 o3 o6 I V (KF.out V (hV)).1.1.1.1.2 (ho.kept hb23)).mono ?_
    rintro e w9 ⟨rfl, h9⟩
    refine hK _ _ ?_ h9
    simp only [relL, List.getElem?_cons_zero, List.getElem?_cons_succ, eqV]
    exact rfl
  refine FlowR.step (fun V hV => ?_) ?_
  · simp only [Dep, Act.put, List.setIfInBounds_toArray, List.set_cons_zero, List.set_cons_succ]
    rintro x20 ⟨V20, rfl, hb20⟩
    rintro x24 ⟨V24, rfl, hb24⟩
    intro K hK
    go_simp
    refine hK _ _ ?_ (Below.refl _ _)
    simp only [relL, List.getElem?_cons_zero, List.getElem?_cons_succ, eqV]
    exact rfl
  refine FlowR.step (fun V hV => ?_) ?_
  · simp only [Dep, Act.put, List.setIfInBounds_toArray, List.set_cons_zero, List.set_cons_succ]
    rintro x25 ⟨V25, rfl, hb25⟩
    intro K hK
    go_simp
    refine hK _ _ ?_ (Below.refl _ _)
    simp only [relL, List.getElem?_cons_zero, List.getElem?_cons_succ, eqV]
    exact rfl
  refine FlowR.step (fun V hV => ?_) ?_
  · simp only [Dep, Act.put, List.setIfInBounds_toArray, List.set_cons_zero, List.set_cons_succ]
    rintro x26 ⟨V26, rfl, hb26⟩
    intro K hK
    obtain ⟨iv, iw, ix, iy, iz⟩ := (KF.out V (hV)).1.1.1.1.1.2
    go_simp
    refine hK _ _ ?_ (Below.refl _ _)
    simp only [relL, List.getElem?_cons_zero, List.getElem?_cons_succ, eqV]
    exact rfl
  refine FlowR.step (fun V hV => ?_) ?_
  · simp only [Dep, Act.put, List.setIfInBounds_toArray, List.set_cons_zero, List.set_cons_succ]
    rintro x26 ⟨V26, rfl, hb26⟩
    intro K hK
    obtain ⟨xv, xw, xx, xy, xz⟩ := (KF.out V (hV)).1.1.1.2
    go_simp
    refine hK _ _ ?_ (Below.refl _ _)
    simp only [relL, List.getElem?_cons_zero, List.getElem?_cons_succ, eqV]
    exact rfl
  refine FlowR.step (fun V hV => ?_) ?_
  · simp only [Dep, Act.put, List.setIfInBounds_toArray, List.set_cons_zero, List.set_cons_succ]
    rintro x27 ⟨V27, rfl, hb27⟩
    rintro x28 ⟨V28, rfl, hb28⟩
    rintro x26 ⟨V26, rfl, hb26⟩
    intro K hK
    go_simp
    go_at_call 37
    refine (same_any p1 p4 p2 p5 p3 p6 I r1 r4 r2 r5 r3 r6 X V (KF.out V (hV)).1.1.1.1.2 (KF.out V (hV)).1.1.2).mono ?_
    rintro e w9 ⟨rfl, h9⟩
    refine hK _ _ ?_ h9
    simp only [relL, List.getElem?_cons_zero, List.getElem?_cons_succ, eqV]
    exact rfl
  refine FlowR.step (fun V hV => ?_) ?_
  · simp only [Dep, Act.put, List.setIfInBounds_toArray, List.set_cons_zero, List.set_cons_succ]
    rintro x26 ⟨V26, rfl, hb26⟩
    intro K hK
    obtain ⟨iv, iw, ix, iy, iz⟩ := (KF.out V (hV)).1.1.1.1.1.2
    go_simp
    refine hK _ _ ?_ (Below.refl _ _)
    simp only [relL, List.getElem?_cons_zero, List.getElem?_cons_succ, eqV]
    exact rfl
  refine FlowR.step (fun V hV => ?_) ?_
  · simp only [Dep, Act.put, List.setIfInBounds_toArray, List.set_cons_zero, List.set_cons_succ]
    rintro x26 ⟨V26, rfl, hb26⟩
    intro K hK
    obtain ⟨xv, xw, xx, xy, xz⟩ := (KF.out V (hV)).1.1.1.2
    go_simp
    refine hK _ _ ?_ (Below.refl _ _)
    simp only [relL, List.getElem?_cons_zero, List.getElem?_cons_succ, eqV]
    exact rfl
  refine FlowR.step (fun V hV => ?_) ?_
  · simp only [Dep, Act.put, List.setIfInBounds_toArray, List.set_cons_zero, List.set_cons_succ]
    rintro x30 ⟨V30, rfl, hb30⟩
    rintro x31 ⟨V31, rfl, hb31⟩
    rintro x26 ⟨V26, rfl, hb26⟩
    intro K hK
    go_simp
    go_at_call 36
    refine (rsame_any p1 p4 p2 p5 p3 p6 I r1 r4 r2 r5 r3 r6 X V (KF.out V (hV)).1.1.1.1.2 (KF.out V (hV)).1.1.2).mono ?_
    rintro e w9 ⟨rfl, h9⟩
    refine hK _ _ ?_ h9
    simp only [relL, List.getElem?_cons_zero, List.getElem?_cons_succ, eqV]
    exact rfl
  refine FlowR.step (fun V hV => ?_) ?_
  · simp only [Dep, Act.put, List.setIfInBounds_toArray, List.set_cons_zero, List.set_cons_succ]
    rintro x29 ⟨V29, rfl, hb29⟩
    rintro x32 ⟨V32, rfl, hb32⟩
    rintro x26 ⟨V26, rfl, hb26⟩
    intro K hK
    go_simp
    refine hK _ _ ?_ (Below.refl _ _)
    simp only [relL, List.getElem?_cons_zero, List.getElem?_cons_succ, eqV]
    exact rfl
  refine FlowR.step (fun V hV => ?_) ?_
  · simp only [Dep, Act.put, List.setIfInBounds_toArray, List.set_cons_zero, List.set_cons_succ]
    rintro x26 ⟨V26, rfl, hb26⟩
    rintro x33 ⟨V33, rfl, hb33⟩
    intro K hK
    go_simp
    refine hK _ _ ?_ (Below.refl _ _)
    simp only [relL, List.getElem?_cons_zero, List.getElem?_cons_succ, eqV]
    exact rfl
  refine FlowR.step (fun V hV => ?_) ?_
  · simp only [Dep, Act.put, List.setIfInBounds_toArray, List.set_cons_zero, List.set_cons_succ]
    rintro x34 ⟨V34, rfl, hb34⟩
    intro K hK
    go_simp
    refine hK _ _ ?_ (Below.refl _ _)
    simp only [relL, List.getElem?_cons_zero, List.getElem?_cons_succ, eqV]
    exact rfl
  refine FlowR.step (fun V hV => ?_) ?_
  · simp only [Dep, Act.put, List.setIfInBounds_toArray, List.set_cons_zero, List.set_cons_succ]
    rintro x35 ⟨V35, rfl, hb35⟩
    intro K hK
    obtain ⟨iv, iw, ix, iy, iz⟩ := (KF.out V (hV)).1.1.1.1.1.2
    go_simp
    refine hK _ _ ?_ (Below.refl _ _)
    simp only [relL, List.getElem?_cons_zero, List.getElem?_cons_succ, eqV]
    exact rfl
  refine FlowR.step (fun V hV => ?_) ?_
  · simp only [Dep, Act.put, List.setIfInBounds_toArray, List.set_cons_zero, List.set_cons_succ]
    rintro x35 ⟨V35, rfl, hb35⟩
    intro K hK
    obtain ⟨yv, yw, yx, yy, yz⟩ := (KF.out V (hV)).1.2
    go_simp
    refine hK _ _ ?_ (Below.refl _ _)
    simp only [relL, List.getElem?_cons_zero, List.getElem?_cons_succ, eqV]
    exact rfl
  refine FlowR.step (fun V hV => ?_) ?_
  · simp only [Dep, Act.put, List.setIfInBounds_toArray, List.set_cons_zero, List.set_cons_succ]
    rintro x36 ⟨V36, rfl, hb36⟩
    rintro x37 ⟨V37, rfl, hb37⟩
    rintro x35 ⟨V35, rfl, hb35⟩
    intro K hK
    go_simp
    go_at_call 37
    refine (same_any p1 p4 p2 p5 p3 p6 I q1 q4 q2 q5 q3 q6 Y V (KF.out V (hV)).1.1.1.1.2 (KF.out V (hV)).2).mono ?_
    rintro e w9 ⟨rfl, h9⟩
    refine hK _ _ ?_ h9
    simp only [relL, List.getElem?_cons_zero, List.getElem?_cons_succ, eqV]
    exact rfl
  refine FlowR.step (fun V hV => ?_) ?_
  · simp only [Dep, Act.put, List.setIfInBounds_toArray, List.set_cons_zero, List.set_cons_succ]
    rintro x35 ⟨V35, rfl, hb35⟩
    intro K hK
    obtain ⟨iv, iw, ix, iy, iz⟩ := (KF.out V (hV)).1.1.1.1.1.2
    go_simp
    refine hK _ _ ?_ (Below.refl _ _)
    simp only [relL, List.getElem?_cons_zero, List.getElem?_cons_succ, eqV]
    exact rfl
  refine FlowR.step (fun V hV => ?_) ?_
  · simp only [Dep, Act.put, List.setIfInBounds_toArray, List.set_cons_zero, List.set_cons_succ]
    rintro x35 ⟨V35, rfl, hb35⟩
    intro K hK
    obtain ⟨yv, yw, yx, yy, yz⟩ := (KF.out V (hV)).1.2
    go_simp
    refine hK _ _ ?_ (Below.refl _ _)
    simp only [relL, List.getElem?_cons_zero, List.getElem?_cons_succ, eqV]
    exact rfl
  refine FlowR.step (fun V hV => ?_) ?_
  · simp only [Dep, Act.put, List.setIfInBounds_toArray, List.set_cons_zero, List.set_cons_succ]
    rintro x39 ⟨V39, rfl, hb39⟩
    rintro x40 ⟨V40, rfl, hb40⟩
    rintro x35 ⟨V35, rfl, hb35⟩
    intro K hK
    go_simp
    go_at_call 36
    refine (rsame_any p1 p4 p2 p5 p3 p6 I q1 q4 q2 q5 q3 q6 Y V (KF.out V (hV)).1.1.1.1.2 (KF.out V (hV)).2).mono ?_
    rintro e w9 ⟨rfl, h9⟩
    refine hK _ _ ?_ h9
    simp only [relL, List.getElem?_cons_zero, List.getElem?_cons_succ, eqV]
    exact rfl
  refine FlowR.step (fun V hV => ?_) ?_
  · simp only [Dep, Act.put, List.setIfInBounds_toArray, List.set_cons_zero, List.set_cons_succ]
    rintro x38 ⟨V38, rfl, hb38⟩
    rintro x41 ⟨V41, rfl, hb41⟩
    rintro x35 ⟨V35, rfl, hb35⟩
    intro K hK
    go_simp
    refine hK _ _ ?_ (Below.refl _ _)
    simp only [relL, List.getElem?_cons_zero, List.getElem?_cons_succ, eqV]
    exact rfl
  refine FlowR.step (fun V hV => ?_) ?_
  · simp only [Dep, Act.put, List.setIfInBounds_toArray, List.set_cons_zero, List.set_cons_succ]
    rintro x35 ⟨V35, rfl, hb35⟩
    rintro x42 ⟨V42, rfl, hb42⟩
    intro K hK
    go_simp
    refine hK _ _ ?_ (Below.refl _ _)
    simp only [relL, List.getElem?_cons_zero, List.getElem?_cons_succ, eqV]
    exact rfl
  refine FlowR.step (fun V hV => ?_) ?_
  · simp only [Dep, Act.put, List.setIfInBounds_toArray, List.set_cons_zero, List.set_cons_succ]
    rintro x43 ⟨V43, rfl, hb43⟩
    intro K hK
    go_simp
    refine hK _ _ ?_ (Below.refl _ _)
    simp only [relL, List.getElem?_cons_zero, List.getElem?_cons_succ, eqV]
    exact rfl
  refine FlowR.step (fun V hV => ?_) ?_
  · simp only [Dep, Act.put, List.setIfInBounds_toArray, List.set_cons_zero, List.set_cons_succ]
    rintro x44 ⟨V44, rfl, hb44⟩
    intro K hK
    obtain ⟨yv, yw, yx, yy, yz⟩ := (KF.out V (hV)).1.2
    go_simp
    refine hK _ _ ?_ (Below.refl _ _)
    simp only [relL, List.getElem?_cons_zero, List.getElem?_cons_succ, eqV]
    exact rfl
  refine FlowR.step (fun V hV => ?_) ?_
  · simp only [Dep, Act.put, List.setIfInBounds_toArray, List.set_cons_zero, List.set_cons_succ]
    rintro x44 ⟨V44, rfl, hb44⟩
    intro K hK
    obtain ⟨iv, iw, ix, iy, iz⟩ := (KF.out V (hV)).1.1.1.1.1.2
    go_simp
    refine hK _ _ ?_ (Below.refl _ _)
    simp only [relL, List.getElem?_cons_zero, List.getElem?_cons_succ, eqV]
    exact rfl
  refine FlowR.step (fun V hV => ?_) ?_
  · simp only [Dep, Act.put, List.setIfInBounds_toArray, List.set_cons_zero, List.set_cons_succ]
    rintro x45 ⟨V45, rfl, hb45⟩
    rintro x46 ⟨V46, rfl, hb46⟩
    rintro x44 ⟨V44, rfl, hb44⟩
    intro K hK
    go_simp
    go_at_call 37
    refine (same_swap q1 q4 q2 q5 q3 q6 Y p1 p4 p2 p5 p3 p6 I V (KF.out V (hV)).2 (KF.out V (hV)).1.1.1.1.2).mono ?_
    rintro e w9 ⟨rfl, h9⟩
    refine hK _ _ ?_ h9
    simp only [relL, List.getElem?_cons_zero, List.getElem?_cons_succ, eqV]
    exact rfl
  refine FlowR.step (fun V hV => ?_) ?_
  · simp only [Dep, Act.put, List.setIfInBounds_toArray, List.set_cons_zero, List.set_cons_succ]
    rintro x44 ⟨V44, rfl, hb44⟩
    intro K hK
    obtain ⟨iv, iw, ix, iy, iz⟩ := (KF.out V (hV)).1.1.1.1.1.2
    go_simp
    refine hK _ _ ?_ (Below.refl _ _)
    simp only [relL, List.getElem?_cons_zero, List.getElem?_cons_succ, eqV]
    exact rfl
  refine FlowR.step (fun V hV => ?_) ?_
  · simp only [Dep, Act.put, List.setIfInBounds_toArray, List.set_cons_zero, List.set_cons_succ]
    rintro x44 ⟨V44, rfl, hb44⟩
    intro K hK
    obtain ⟨yv, yw, yx, yy, yz⟩ := (KF.out V (hV)).1.2
    go_simp
    refine hK _ _ ?_ (Below.refl _ _)
    simp only [relL, List.getElem?_cons_zero, List.getElem?_cons_succ, eqV]
    exact rfl
  refine FlowR.step (fun V hV => ?_) ?_
  · simp only [Dep, Act.put, List.setIfInBounds_toArray, List.set_cons_zero, List.set_cons_succ]
    rintro x48 ⟨V48, rfl, hb48⟩
    rintro x49 ⟨V49, rfl, hb49⟩
    rintro x44 ⟨V44, rfl, hb44⟩
    intro K hK
    go_simp
    go_at_call 36
    refine (rsame_any p1 p4 p2 p5 p3 p6 I q1 q4 q2 q5 q3 q6 Y V (KF.out V (hV)).1.1.1.1.2 (KF.out V (hV)).2).mono ?_
    rintro e w9 ⟨rfl, h9⟩
    refine hK _ _ ?_ h9
    simp only [relL, List.getElem?_cons_zero, List.getElem?_cons_succ, eqV]
    exact rfl
  refine FlowR.step (fun V hV => ?_) ?_
  · simp only [Dep, Act.put, List.setIfInBounds_toArray, List.set_cons_zero, List.set_cons_succ]
    rintro x47 ⟨V47, rfl, hb47⟩
    rintro x50 ⟨V50, rfl, hb50⟩
    rintro x44 ⟨V44, rfl, hb44⟩
    intro K hK
    go_simp
    refine hK _ _ ?_ (Below.refl _ _)
    simp only [relL, List.getElem?_cons_zero, List.getElem?_cons_succ, eqV]
    exact rfl
  refine FlowR.step (fun V hV => ?_) ?_
  · simp only [Dep, Act.put, List.setIfInBounds_toArray, List.set_cons_zero, List.set_cons_succ]
    rintro x44 ⟨V44, rfl, hb44⟩
    rintro x51 ⟨V51, rfl, hb51⟩
    intro K hK
    go_simp
    refine hK _ _ ?_ (Below.refl _ _)
    simp only [relL, List.getElem?_cons_zero, List.getElem?_cons_succ, eqV]
    exact rfl
  refine FlowR.step (fun V hV => ?_) ?_
  · simp only [Dep, Act.put, List.setIfInBounds_toArray, List.set_cons_zero, List.set_cons_succ]
    rintro x52 ⟨V52, rfl, hb52⟩
    intro K hK
    go_simp
    refine hK _ _ ?_ (Below.refl _ _)
    simp only [relL, List.getElem?_cons_zero, List.getElem?_cons_succ, eqV]
    exact rfl
  refine FlowR.step (fun V hV => ?_) ?_
  · simp only [Dep, Act.put, List.setIfInBounds_toArray, List.set_cons_zero, List.set_cons_succ]
    rintro x53 ⟨V53, rfl, hb53⟩
    intro K hK
    go_simp
    refine hK _ _ ?_ (Below.refl _ _)
    simp only [relL, List.getElem?_cons_zero, List.getElem?_cons_succ, eqV]
    exact rfl
  refine FlowR.step (fun V hV => ?_) ?_
  · simp only [Dep, Act.put, List.setIfInBounds_toArray, List.set_cons_zero, List.set_cons_succ]
    rintro x53 ⟨V53, rfl, hb53⟩
    intro K hK
    go_simp
    exact hK _ _ ⟨_, rfl⟩ (below1 _ _)
  refine FlowR.step (fun V hV => ?_) ?_
  · simp only [Dep, Act.put, List.setIfInBounds_toArray, List.set_cons_zero, List.set_cons_succ]
    rintro x53 ⟨V53, rfl, hb53⟩
    intro K hK
    go_simp
    exact hK _ _ ⟨_, rfl⟩ (below1 _ _)
  refine FlowR.step (fun V hV => ?_) ?_
  · simp only [Dep, Act.put, List.setIfInBounds_toArray, List.set_cons_zero, List.set_cons_succ]
    rintro x55 ⟨V55, ⟨g55, rfl⟩, hb55⟩
    rintro x56 ⟨V56, ⟨g56, rfl⟩, hb56⟩
    rintro x53 ⟨V53, rfl, hb53⟩
    intro K hK
    go_simp
    exact hK _ _ ⟨_, 0, _, 0, _, 0, rfl, empty_at _ _ _ _⟩ (Below.refl _ _)
  refine FlowR.step (fun V hV => ?_) ?_
  · simp only [Dep, Act.put, List.setIfInBounds_toArray, List.set_cons_zero, List.set_cons_succ]
    rintro x54 ⟨V54, rfl, hb54⟩
    rintro x57 ⟨V57, ⟨o1, o4, o2, o5, o3, o6, rfl, ho⟩, hb57⟩
    rintro x53 ⟨V53, rfl, hb53⟩
    intro K hK
    go_simp
    go_at_call 37
    refine (same_self none 0 none 0 none 0 o1 o4 o2 o5 o3 o6 emptyI V (empty_at _ _ _ _) (ho.kept hb57)).mono ?_
    rintro e w9 ⟨rfl, h9⟩
    refine hK _ _ ?_ h9
    simp only [relL, List.getElem?_cons_zero, List.getElem?_cons_succ, eqV]
    exact rfl
  refine FlowR.step (fun V hV => ?_) ?_
  · simp only [Dep, Act.put, List.setIfInBounds_toArray, List.set_cons_zero, List.set_cons_succ]
    rintro x53 ⟨V53, rfl, hb53⟩
    rintro x58 ⟨V58, rfl, hb58⟩
    intro K hK
    go_simp
    refine hK _ _ ?_ (Below.refl _ _)
    simp only [relL, List.getElem?_cons_zero, List.getElem?_cons_succ, eqV]
    exact rfl
  refine FlowR.step (fun V hV => ?_) ?_
  · simp only [Dep, Act.put, List.setIfInBounds_toArray, List.set_cons_zero, List.set_cons_succ]
    rintro x59 ⟨V59, rfl, hb59⟩
    intro K hK
    go_simp
    refine hK _ _ ?_ (Below.refl _ _)
    simp only [relL, List.getElem?_cons_zero, List.getElem?_cons_succ, eqV]
    exact rfl
  refine FlowR.step (fun V hV => ?_) ?_
  · simp only [Dep, Act.put, List.setIfInBounds_toArray, List.set_cons_zero, List.set_cons_succ]
    rintro x60 ⟨V60, rfl, hb60⟩
    intro K hK
    go_simp
    go_at_call 39
    refine (rget_any _ V (by decide)).mono ?_
    rintro e w9 ⟨rfl, rfl⟩
    refine hK _ _ ?_ (Below.refl _ _)
    simp only [relL, List.getElem?_cons_zero, List.getElem?_cons_succ, eqV]
    exact rfl
  refine FlowR.step (fun V hV => ?_) ?_
  · simp only [Dep, Act.put, List.setIfInBounds_toArray, List.set_cons_zero, List.set_cons_succ]
    rintro x61 ⟨V61, rfl, hb61⟩
    rintro x60 ⟨V60, rfl, hb60⟩
    intro K hK
    go_simp
    refine hK _ _ ?_ (Below.refl _ _)
    simp only [relL, List.getElem?_cons_zero, List.getElem?_cons_succ, eqV]
    exact rfl
  refine FlowR.step (fun V hV => ?_) ?_
  · simp only [Dep, Act.put, List.setIfInBounds_toArray, List.set_cons_zero, List.set_cons_succ]
    rintro x60 ⟨V60, rfl, hb60⟩
    rintro x62 ⟨V62, rfl, hb62⟩
    intro K hK
    go_simp
    refine hK _ _ ?_ (Below.refl _ _)
    simp only [relL, List.getElem?_cons_zero, List.getElem?_cons_succ, eqV]
    exact rfl
  refine FlowR.last (fun V hV => ?_)
  simp only [Dep, Act.put, List.setIfInBounds_toArray, List.set_cons_zero, List.set_cons_succ]
  rintro x19 ⟨V19, rfl, hb19⟩
  rintro x20 ⟨V20, rfl, hb20⟩
  rintro x21 ⟨V21, rfl, hb21⟩
  rintro x22 ⟨V22, rfl, hb22⟩
  rintro x23 ⟨V23, ⟨o1, o4, o2, o5, o3, o6, rfl, ho⟩, hb23⟩
  rintro x24 ⟨V24, rfl, hb24⟩
  rintro x25 ⟨V25, rfl, hb25⟩
  rintro x26 ⟨V26, rfl, hb26⟩
  rintro x27 ⟨V27, rfl, hb27⟩
  rintro x28 ⟨V28, rfl, hb28⟩
  rintro x29 ⟨V29, rfl, hb29⟩
  rintro x30 ⟨V30, rfl, hb30⟩
  rintro x31 ⟨V31, rfl, hb31⟩
  rintro x32 ⟨V32, rfl, hb32⟩
  rintro x33 ⟨V33, rfl, hb33⟩
  rintro x34 ⟨V34, rfl, hb34⟩
  rintro x35 ⟨V35, rfl, hb35⟩
  rintro x36 ⟨V36, rfl, hb36⟩
  rintro x37 ⟨V37, rfl, hb37⟩
  rintro x38 ⟨V38, rfl, hb38⟩
  rintro x39 ⟨V39, rfl, hb39⟩
  rintro x40 ⟨V40, rfl, hb40⟩
  rintro x41 ⟨V41, rfl, hb41⟩
  rintro x42 ⟨V42, rfl, hb42⟩
  rintro x43 ⟨V43, rfl, hb43⟩
  rintro x44 ⟨V44, rfl, hb44⟩
  rintro x45 ⟨V45, rfl, hb45⟩
  rintro x46 ⟨V46, rfl, hb46⟩
  rintro x47 ⟨V47, rfl, hb47⟩
  rintro x48 ⟨V48, rfl, hb48⟩
  rintro x49 ⟨V49, rfl, hb49⟩
  rintro x50 ⟨V50, rfl, hb50⟩
  rintro x51 ⟨V51, rfl, hb51⟩
  rintro x52 ⟨V52, rfl, hb52⟩
  rintro x53 ⟨V53, rfl, hb53⟩
  rintro x54 ⟨V54, rfl, hb54⟩
  rintro x55 ⟨V55, ⟨g55, rfl⟩, hb55⟩
  rintro x56 ⟨V56, ⟨g56, rfl⟩, hb56⟩
  rintro x57 ⟨V57, ⟨o1, o4, o2, o5, o3, o6, rfl, ho⟩, hb57⟩
  rintro x58 ⟨V58, rfl, hb58⟩
  rintro x59 ⟨V59, rfl, hb59⟩
  rintro x60 ⟨V60, rfl, hb60⟩
  rintro x61 ⟨V61, rfl, hb61⟩
  rintro x62 ⟨V62, rfl, hb62⟩
  rintro x63 ⟨V63, rfl, hb63⟩
  intro K hK
  go_simp
  refine hK _ _ ?_
  clear hK K
  have HW := Lib.hid (KF.out V (hV)).1.1.1.1.1.1.1
  clear hV
  go_wp2_with fail
  go_ret
  exact ⟨rfl, HW.out⟩
end Go.Proofs.Ytgdiaaoekkdibaa
