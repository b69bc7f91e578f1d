/- ImagePlaces: the walk of the law. -/
import Derived.Test.YtgdiaaoekkdibaaT8
import Derived.Test.YtgdiaaoekkdibaaD2
import Derived.Test.YtgdiaaoekkdibaaE2
import Derived.Test.YtgdiaaoekkdibaaI10
import Derived.Test.YtgdiaaoekkdibaaR2
namespace Go.Proofs.Ytgdiaaoekkdibaa
set_option linter.unusedVariables false
set_option linter.unusedSimpArgs false
open Go.RowKit
def DrawnV (v : Value) (V : World) : Prop := ∃ (I : Img) (p1 : Option Addr) (p4 : Nat) (p2 : Option Addr) (p5 : Nat) (p3 : Option Addr) (p6 : Nat), v = imgV p1 p4 p2 p5 p3 p6 I ∧ ImgAt V p1 p2 p3 I ∧ checkI I = 0 ∧ I.banks.length ≤ 3 ∧ I.data.length ≤ 28 ∧ I.relocs.length ≤ 78
def TurnedV (v : Value) (V : World) : Prop := ∃ (I : Img) (p1 : Option Addr) (p4 : Nat) (p2 : Option Addr) (p5 : Nat) (p3 : Option Addr) (p6 : Nat), v = imgV p1 p4 p2 p5 p3 p6 I ∧ ImgAt V p1 p2 p3 I ∧ (∀ s ∈ I.banks, s.size ≤ 4096) ∧ I.banks.length ≤ 3 ∧ I.data.length ≤ 28 ∧ I.relocs.length ≤ 79
set_option maxRecDepth 8000 in
set_option maxHeartbeats 8000000 in
theorem imagePlaces_walk (ps : Option Addr) (pc : Nat) (S : List Int) (x y z : Int) (a b c : Int) (w : World) (hlS : S.length ≤ 9223372036854775807) (hSS : IntsAt w ps S) (x0 : -9223372036854775808 ≤ x) (x1 : x ≤ 9223372036854775807) (y0 : -9223372036854775808 ≤ y) (y1 : y ≤ 9223372036854775807) (z0 : -9223372036854775808 ≤ z) (z1 : z ≤ 9223372036854775807) (a0 : -9223372036854775808 ≤ a) (a1 : a ≤ 9223372036854775807) (b0 : -9223372036854775808 ≤ b) (b1 : b ≤ 9223372036854775807) (c0 : -9223372036854775808 ≤ c) (c1 : c ≤ 9223372036854775807) :
    Calls Try.prog 9 #[.slice ps S.length pc, .agg #[.int .i64 x, .int .i64 y, .int .i64 z], .agg #[.int .i64 a, .int .i64 b, .int .i64 c]] w fun e w' => e = .returned (.bool true) ∧ Below w.heap.size w w' := by
  have KSS := Lib.hid hSS
  have KLS := Lib.hid hlS
  have Kx : Hid (OkI64 x) := ⟨x0, x1⟩
  have Ky : Hid (OkI64 y) := ⟨y0, y1⟩
  have Kz : Hid (OkI64 z) := ⟨z0, z1⟩
  have Ka : Hid (OkI64 a) := ⟨a0, a1⟩
  have Kb : Hid (OkI64 b) := ⟨b0, b1⟩
  have Kc : Hid (OkI64 c) := ⟨c0, c1⟩
  clear hSS hlS x0 x1 y0 y1 z0 z1 a0 a1 b0 b1 c0 c1
  have KF := Lib.hid (fun V (hb : Below ((w.alloc (Obj.cells #[.int .i64 x, .int .i64 y, .int .i64 z] 23)).alloc (Obj.cells #[.int .i64 a, .int .i64 b, .int .i64 c] 23)).heap.size ((w.alloc (Obj.cells #[.int .i64 x, .int .i64 y, .int .i64 z] 23)).alloc (Obj.cells #[.int .i64 a, .int .i64 b, .int .i64 c] 23)) V) => And.intro (below_next (below_alloc (below1 w (Obj.cells #[.int .i64 x, .int .i64 y, .int .i64 z] 23)) (Obj.cells #[.int .i64 a, .int .i64 b, .int .i64 c] 23)) hb) (two_boxes_33 w x y z a b c V hb))
  go_enter Try.func9, Try.ntmps9
  go_wp2_with fail
  have hw0 : ((w.alloc (Obj.cells #[.int .i64 x, .int .i64 y, .int .i64 z] 23)).alloc (Obj.cells #[.int .i64 a, .int .i64 b, .int .i64 c] 23)).heap.size = w.heap.size + 2 := by simp
  generalize ((w.alloc (Obj.cells #[.int .i64 x, .int .i64 y, .int .i64 z] 23)).alloc (Obj.cells #[.int .i64 a, .int .i64 b, .int .i64 c] 23)) = W0 at *
  refine (sanity_any _).mono ?_
  rintro e w1 ⟨rfl, h1⟩
  replace KF := Lib.hid (fun V (hb : Below w1.heap.size w1 V) => KF.out V (below_next (h1) hb))
  clear h1
  go_wp2_with fail
  refine' wp_region_flowR [[], [(18, 0)], [], [(19, 1), (20, 2)], [], [(18, 0), (19, 1), (20, 2), (21, 3), (8, 4)]] (relL [eqV _, DrawnV, eqV _, TurnedV, ptrTo (Obj.cells #[Value.slice none 0 0, Value.int IntKind.u16 0, Value.int IntKind.u16 0, Value.slice none 0 0, Value.slice none 0 0] 30) w1, fun v V => True]) (by kernel_rfl) (by kernel_rfl) ?_
  rotate_left 2
  refine FlowR.step ?_ ?_
  · intro V hV
    simp only [Dep, Act.put, List.setIfInBounds_toArray, List.set_cons_zero, List.set_cons_succ]
    intro K hK
    go_simp
    refine hK _ _ ?_ (Below.refl _ _)
    simp only [relL, List.getElem?_cons_zero, List.getElem?_cons_succ, eqV]
    exact rfl
  refine FlowR.step ?_ ?_
  · intro V hV
    simp only [Dep, Act.put, List.setIfInBounds_toArray, List.set_cons_zero, List.set_cons_succ]
    rintro x18 ⟨V18, rfl, hb18⟩
    intro K hK
    go_simp
    go_at_call 16
    refine (drawn_any ps pc S V KLS.out (KSS.out.kept (KF.out V (hV)).1)).mono ?_
    rintro e w9 ⟨I, p1, p4, p2, p5, p3, p6, rfl, hI, hc, l1, l2, l3, h9⟩
    exact hK _ _ (⟨I, p1, p4, p2, p5, p3, p6, rfl, hI, hc, l1, l2, l3⟩) h9
  refine FlowR.step ?_ ?_
  · intro V hV
    simp only [Dep, Act.put, List.setIfInBounds_toArray, List.set_cons_zero, List.set_cons_succ]
    intro K hK
    obtain ⟨ex, ey, ez⟩ := (KF.out V (hV)).2.1
    go_simp
    refine hK _ _ ?_ (Below.refl _ _)
    simp only [relL, List.getElem?_cons_zero, List.getElem?_cons_succ, eqV]
    exact rfl
  refine FlowR.step ?_ ?_
  · intro V hV
    simp only [Dep, Act.put, List.setIfInBounds_toArray, List.set_cons_zero, List.set_cons_succ]
    rintro x19 ⟨V19, ⟨I, p1, p4, p2, p5, p3, p6, rfl, hI, hc, l1, l2, l3⟩, hb19⟩
    rintro x20 ⟨V20, rfl, hb20⟩
    intro K hK
    go_simp
    go_at_call 17
    refine (turned_any p1 p4 p2 p5 p3 p6 I x y z V (hI.kept hb19) (full_size hc) (by omega) (by omega) (by omega) Kx.out Ky.out Kz.out (TurnedPost I V) (Lib.hid fun _ _ h => h)).mono ?_
    rintro e w9 ⟨J, q1, q4, q2, q5, q3, q6, rfl, hJ, hF, m1, m2, m3, h9⟩
    exact hK _ _ (⟨J, q1, q4, q2, q5, q3, q6, rfl, hJ, hF, by omega, by omega, by omega⟩) h9
  refine FlowR.step ?_ ?_
  · intro V hV
    simp only [Dep, Act.put, List.setIfInBounds_toArray, List.set_cons_zero, List.set_cons_succ]
    intro K hK
    go_simp
    exact hK _ _ (ptr_at hV) (below1 _ _)
  refine FlowR.last ?_
  intro V hV
  simp only [Dep, Act.put, List.setIfInBounds_toArray, List.set_cons_zero, List.set_cons_succ]
  rintro x18 ⟨V18, rfl, hb18⟩
  rintro x19 ⟨V19, ⟨I, p1, p4, p2, p5, p3, p6, rfl, hI, hc, l1, l2, l3⟩, hb19⟩
  rintro x20 ⟨V20, rfl, hb20⟩
  rintro x21 ⟨V21, ⟨J, q1, q4, q2, q5, q3, q6, rfl, hJ, hF, m1, m2, m3⟩, hb21⟩
  rintro x8 ⟨V8, ⟨W9, rfl, rfl, hW9⟩, hb8⟩
  intro K hK
  obtain ⟨z0, g0⟩ := made_cells hb8 0 _ rfl
  obtain ⟨z1, g1⟩ := made_cells hb8 1 _ rfl
  obtain ⟨z2, g2⟩ := made_cells hb8 2 _ rfl
  obtain ⟨z3, g3⟩ := made_cells hb8 3 _ rfl
  obtain ⟨z4, g4⟩ := made_cells hb8 4 _ rfl
  obtain ⟨W2, eW2, hB2, hC2, hI2⟩ := stored_img hb8 hW9 q1 q4 q2 q5 q3 q6 J (hJ.kept hb21)
  have KE2 := Lib.hid eW2
  clear hI hc l1 l2 l3 hJ eW2 hb18 hb19 hb20
  simp only [imgV]
  go_simp
  rw [← KE2.out]
  refine hK _ _ ?_
  clear hK K z0 z1 z2 z3 z4 g0 g1 g2 g3 g4 KE2
  have HF := Lib.hid hF
  clear hF
  replace KF := Lib.hid (fun V (hb : Below W2.heap.size W2 V) => And.intro (And.intro (KF.out V (below_next hB2 hb)) (hC2 V hb)) (hI2.kept hb))
  clear hI2 hC2 hB2 hW9 hb21 hb8 hV
  obtain ⟨ea, eb, ec⟩ := (KF.out _ (Below.refl _ _)).1.1.2.2
  go_wp2_with fail
  clear ea eb ec
  have hw : IntKind.u16.wrap (b % 4096) = b % 4096 := wrap_in _ (by omega) (by omega)
  have hw2 : IntKind.u16.wrap (4096 + b % 4096) = 4096 + b % 4096 := wrap_in _ (by omega) (by omega)
  refine' wp_region_flowR [[], [(22, 0)], [], [(24, 2)], [(25, 3)], [(23, 1), (26, 4)], [], [(28, 6)], [(29, 7)], [], [(31, 9)], [(32, 10)], [(33, 11)], [(34, 12)], [(30, 8), (35, 13)], [(27, 5), (36, 14)], [], [(22, 0), (23, 1), (24, 2), (25, 3), (26, 4), (27, 5), (28, 6), (29, 7), (30, 8), (31, 9), (32, 10), (33, 11), (34, 12), (35, 13), (36, 14), (37, 15), (9, 16)]] (relL [eqV _, eqV _, eqV _, eqV _, eqV _, eqV _, eqV _, eqV _, eqV _, eqV _, eqV _, eqV _, eqV _, eqV _, eqV _, eqV _, ptrTo (Obj.cells #[Value.int IntKind.i64 0, Value.int IntKind.u16 0, Value.int IntKind.i64 0, Value.int IntKind.u16 0] 56) W2, fun v V => True]) (by kernel_rfl) (by kernel_rfl) ?_
  rotate_left 16
  refine FlowR.step ?_ ?_
  · intro V hV
    simp only [Dep, Act.put, List.setIfInBounds_toArray, List.set_cons_zero, List.set_cons_succ]
    intro K hK
    go_simp
    refine hK _ _ ?_ (Below.refl _ _)
    simp only [relL, List.getElem?_cons_zero, List.getElem?_cons_succ, eqV]
    exact rfl
  refine FlowR.step ?_ ?_
  · intro V hV
    simp only [Dep, Act.put, List.setIfInBounds_toArray, List.set_cons_zero, List.set_cons_succ]
    rintro x22 ⟨V22, rfl, hb22⟩
    intro K hK
    obtain ⟨ea, eb, ec⟩ := (KF.out V (hV)).1.1.2.2
    go_simp
    refine hK _ _ ?_ (Below.refl _ _)
    simp only [relL, List.getElem?_cons_zero, List.getElem?_cons_succ, eqV]
    exact rfl
  refine FlowR.step ?_ ?_
  · intro V hV
    simp only [Dep, Act.put, List.setIfInBounds_toArray, List.set_cons_zero, List.set_cons_succ]
    intro K hK
    go_simp
    refine hK _ _ ?_ (Below.refl _ _)
    simp only [relL, List.getElem?_cons_zero, List.getElem?_cons_succ, eqV]
    exact rfl
  refine FlowR.step ?_ ?_
  · intro V hV
    simp only [Dep, Act.put, List.setIfInBounds_toArray, List.set_cons_zero, List.set_cons_succ]
    rintro x24 ⟨V24, rfl, hb24⟩
    intro K hK
    obtain ⟨ea, eb, ec⟩ := (KF.out V (hV)).1.1.2.2
    go_simp
    refine hK _ _ ?_ (Below.refl _ _)
    simp only [relL, List.getElem?_cons_zero, List.getElem?_cons_succ, eqV]
    exact rfl
  refine FlowR.step ?_ ?_
  · intro V hV
    simp only [Dep, Act.put, List.setIfInBounds_toArray, List.set_cons_zero, List.set_cons_succ]
    rintro x25 ⟨V25, rfl, hb25⟩
    intro K hK
    go_simp
    refine hK _ _ ?_ (Below.refl _ _)
    simp only [relL, List.getElem?_cons_zero, List.getElem?_cons_succ, eqV]
    exact rfl
  refine FlowR.step ?_ ?_
  · intro V hV
    simp only [Dep, Act.put, List.setIfInBounds_toArray, List.set_cons_zero, List.set_cons_succ]
    rintro x23 ⟨V23, rfl, hb23⟩
    rintro x26 ⟨V26, rfl, hb26⟩
    intro K hK
    go_simp
    refine hK _ _ ?_ (Below.refl _ _)
    simp only [relL, List.getElem?_cons_zero, List.getElem?_cons_succ, eqV]
    exact rfl
  refine FlowR.step ?_ ?_
  · intro V hV
    simp only [Dep, Act.put, List.setIfInBounds_toArray, List.set_cons_zero, List.set_cons_succ]
    intro K hK
    go_simp
    refine hK _ _ ?_ (Below.refl _ _)
    simp only [relL, List.getElem?_cons_zero, List.getElem?_cons_succ, eqV]
    exact rfl
  refine FlowR.step ?_ ?_
  · intro V hV
    simp only [Dep, Act.put, List.setIfInBounds_toArray, List.set_cons_zero, List.set_cons_succ]
    rintro x28 ⟨V28, rfl, hb28⟩
    intro K hK
    obtain ⟨ea, eb, ec⟩ := (KF.out V (hV)).1.1.2.2
    go_simp
    refine hK _ _ ?_ (Below.refl _ _)
    simp only [relL, List.getElem?_cons_zero, List.getElem?_cons_succ, eqV]
    exact rfl
  refine FlowR.step ?_ ?_
  · intro V hV
    simp only [Dep, Act.put, List.setIfInBounds_toArray, List.set_cons_zero, List.set_cons_succ]
    rintro x29 ⟨V29, rfl, hb29⟩
    intro K hK
    go_simp
    go_at_call 20
    refine (mod_any a 3 V Ka.out (by decide) (by decide)).mono ?_
    rintro e w9 ⟨rfl, rfl⟩
    refine hK _ _ ?_ (Below.refl _ _)
    simp only [relL, List.getElem?_cons_zero, List.getElem?_cons_succ, eqV]
    exact rfl
  refine FlowR.step ?_ ?_
  · intro V hV
    simp only [Dep, Act.put, List.setIfInBounds_toArray, List.set_cons_zero, List.set_cons_succ]
    intro K hK
    go_simp
    refine hK _ _ ?_ (Below.refl _ _)
    simp only [relL, List.getElem?_cons_zero, List.getElem?_cons_succ, eqV]
    exact rfl
  refine FlowR.step ?_ ?_
  · intro V hV
    simp only [Dep, Act.put, List.setIfInBounds_toArray, List.set_cons_zero, List.set_cons_succ]
    rintro x31 ⟨V31, rfl, hb31⟩
    intro K hK
    obtain ⟨ea, eb, ec⟩ := (KF.out V (hV)).1.1.2.2
    go_simp
    refine hK _ _ ?_ (Below.refl _ _)
    simp only [relL, List.getElem?_cons_zero, List.getElem?_cons_succ, eqV]
    exact rfl
  refine FlowR.step ?_ ?_
  · intro V hV
    simp only [Dep, Act.put, List.setIfInBounds_toArray, List.set_cons_zero, List.set_cons_succ]
    rintro x32 ⟨V32, rfl, hb32⟩
    intro K hK
    go_simp
    go_at_call 20
    refine (mod_any b 4096 V Kb.out (by decide) (by decide)).mono ?_
    rintro e w9 ⟨rfl, rfl⟩
    refine hK _ _ ?_ (Below.refl _ _)
    simp only [relL, List.getElem?_cons_zero, List.getElem?_cons_succ, eqV]
    exact rfl
  refine FlowR.step ?_ ?_
  · intro V hV
    simp only [Dep, Act.put, List.setIfInBounds_toArray, List.set_cons_zero, List.set_cons_succ]
    rintro x33 ⟨V33, rfl, hb33⟩
    intro K hK
    go_simp
    refine hK _ _ ?_ (Below.refl _ _)
    simp only [relL, List.getElem?_cons_zero, List.getElem?_cons_succ, eqV]
    exact rfl
  refine FlowR.step ?_ ?_
  · intro V hV
    simp only [Dep, Act.put, List.setIfInBounds_toArray, List.set_cons_zero, List.set_cons_succ]
    rintro x34 ⟨V34, rfl, hb34⟩
    intro K hK
    go_simp
    refine hK _ _ ?_ (Below.refl _ _)
    simp only [relL, List.getElem?_cons_zero, List.getElem?_cons_succ, eqV]
    exact rfl
  refine FlowR.step ?_ ?_
  · intro V hV
    simp only [Dep, Act.put, List.setIfInBounds_toArray, List.set_cons_zero, List.set_cons_succ]
    rintro x30 ⟨V30, rfl, hb30⟩
    rintro x35 ⟨V35, rfl, hb35⟩
    intro K hK
    go_simp
    refine hK _ _ ?_ (Below.refl _ _)
    simp only [relL, List.getElem?_cons_zero, List.getElem?_cons_succ, eqV]
    exact rfl
  refine FlowR.step ?_ ?_
  · intro V hV
    simp only [Dep, Act.put, List.setIfInBounds_toArray, List.set_cons_zero, List.set_cons_succ]
    rintro x27 ⟨V27, rfl, hb27⟩
    rintro x36 ⟨V36, rfl, hb36⟩
    intro K hK
    go_simp
    refine hK _ _ ?_ (Below.refl _ _)
    simp only [relL, List.getElem?_cons_zero, List.getElem?_cons_succ, eqV]
    exact rfl
  refine FlowR.step ?_ ?_
  · intro V hV
    simp only [Dep, Act.put, List.setIfInBounds_toArray, List.set_cons_zero, List.set_cons_succ]
    intro K hK
    go_simp
    exact hK _ _ (ptr_at hV) (below1 _ _)
  refine FlowR.last ?_
  intro V hV
  simp only [Dep, Act.put, List.setIfInBounds_toArray, List.set_cons_zero, List.set_cons_succ]
  rintro x22 ⟨V22, rfl, hb22⟩
  rintro x23 ⟨V23, rfl, hb23⟩
  rintro x24 ⟨V24, rfl, hb24⟩
  rintro x25 ⟨V25, rfl, hb25⟩
  rintro x26 ⟨V26, rfl, hb26⟩
  rintro x27 ⟨V27, rfl, hb27⟩
  rintro x28 ⟨V28, rfl, hb28⟩
  rintro x29 ⟨V29, rfl, hb29⟩
  rintro x30 ⟨V30, rfl, hb30⟩
  rintro x31 ⟨V31, rfl, hb31⟩
  rintro x32 ⟨V32, rfl, hb32⟩
  rintro x33 ⟨V33, rfl, hb33⟩
  rintro x34 ⟨V34, rfl, hb34⟩
  rintro x35 ⟨V35, rfl, hb35⟩
  rintro x36 ⟨V36, rfl, hb36⟩
  rintro x37 ⟨V37, rfl, hb37⟩
  rintro x9 ⟨V9, ⟨WL, rfl, rfl, hWL⟩, hb9⟩
  intro K hK
  obtain ⟨z0, g0⟩ := made_cells hb9 0 _ rfl
  obtain ⟨z1, g1⟩ := made_cells hb9 1 _ rfl
  obtain ⟨z2, g2⟩ := made_cells hb9 2 _ rfl
  obtain ⟨z3, g3⟩ := made_cells hb9 3 _ rfl
  obtain ⟨hB2, hC2⟩ := stored hb9 hWL [.int .i64 a, .int .u16 (IntKind.u16.wrap b), .int .i64 (a % 3), .int .u16 (4096 + b % 4096)] rfl
  simp only [setAll] at hB2 hC2
  go_simp
  refine hK _ _ ?_
  clear hK K z0 z1 z2 z3 g0 g1 g2 g3
  generalize (((V.setCell ⟨WL.heap.size, 0, none⟩ (.int .i64 a)).setCell ⟨WL.heap.size, 1, none⟩ (.int .u16 (IntKind.u16.wrap b))).setCell ⟨WL.heap.size, 2, none⟩ (.int .i64 (a % 3))).setCell ⟨WL.heap.size, 3, none⟩ (.int .u16 (4096 + b % 4096)) = W3 at *
  replace KF := Lib.hid (fun V (hb : Below W3.heap.size W3 V) => And.intro (KF.out V (below_next hB2 hb)) (hC2 V hb))
  clear hB2 hC2 hb9 hWL hV
  clear hb22 V22 hb23 V23 hb24 V24 hb25 V25 hb26 V26 hb27 V27 hb28 V28 hb29 V29 hb30 V30 hb31 V31 hb32 V32 hb33 V33 hb34 V34 hb35 V35 hb36 V36 hb37 V37
  clear V
  clear hw hw2
  go_wp2_with fail
  go_loopw [10] (fun i wr => ∃ k : Nat, k ≤ 2 ∧ i = .int .i64 k ∧ Below W3.heap.size W3 wr) (fun i _ => 2 - (intOf i).toNat)
  case atStart => exact ⟨0, by omega, rfl, Below.refl _ _⟩
  case round =>
    obtain ⟨k, hk, rfl, hBw⟩ := hrel
    have HBw := Lib.hid hBw
    clear hBw
    by_cases hlt : k < 2
    · obtain ⟨pb, pa, hpb, hpa, hpc⟩ : ∃ pb pa : Int, OkI64 pb ∧ OkU16 pa ∧ ∀ V, Below W3.heap.size W3 V → V.cell? ⟨WL.heap.size, k * 2, none⟩ = some (.int .i64 pb) ∧ V.cell? ⟨WL.heap.size, k * 2 + 1, none⟩ = some (.int .u16 pa) := by
        rcases (show k = 0 ∨ k = 1 by omega) with rfl | rfl
        · exact ⟨a, IntKind.u16.wrap b, Ka.out, by rw [IntKind.wrap_u16]; exact ⟨by omega, by omega⟩, fun V hb => ⟨(KF.out V (hb)).2 0 _ rfl, (KF.out V (hb)).2 1 _ rfl⟩⟩
        · exact ⟨a % 3, 4096 + b % 4096, ⟨by omega, by omega⟩, ⟨by omega, by omega⟩, fun V hb => ⟨(KF.out V (hb)).2 2 _ rfl, (KF.out V (hb)).2 3 _ rfl⟩⟩
      have KP := Lib.hid hpc
      have Kpb := Lib.hid hpb
      have Kpa := Lib.hid hpa
      clear hpc hpb hpa
      have hk0 : (0 : Int) ≤ (k : Int) := by omega
      have hk2 : (k : Int) < 2 := by omega
      go_wp2_with fail
      refine wp_region_flow (S := fun V => Below W3.heap.size W3 V) (by kernel_rfl) (by kernel_rfl) (Below.drew (HBw.out)) ?_
      refine Flow.step ?_ ?_ ?_
      rotate_left
      · intro V K hS hK
        obtain ⟨jv, jw, jx, jy, jz⟩ := (KF.out V (hS)).1.1.2
        go_simp
        exact hK _ hS
      simp only [Act.put, List.setIfInBounds_toArray, List.set_cons_zero, List.set_cons_succ]
      refine Flow.step ?_ ?_ ?_
      rotate_left
      · intro V K hS hK
        go_simp
        exact hK _ hS
      simp only [Act.put, List.setIfInBounds_toArray, List.set_cons_zero, List.set_cons_succ]
      refine Flow.step ?_ ?_ ?_
      rotate_left
      · intro V K hS hK
        go_simp
        exact hK _ hS
      simp only [Act.put, List.setIfInBounds_toArray, List.set_cons_zero, List.set_cons_succ]
      refine Flow.step ?_ ?_ ?_
      rotate_left
      · intro V K hS hK
        obtain ⟨n0, n1⟩ := KP.out V hS
        go_simp
        exact hK _ hS
      simp only [Act.put, List.setIfInBounds_toArray, List.set_cons_zero, List.set_cons_succ]
      refine Flow.step ?_ ?_ ?_
      rotate_left
      · intro V K hS hK
        go_simp
        go_at_call 26
        refine (offset_any q1 q4 q2 q5 q3 q6 J pb pa V (KF.out V (hS)).1.2 Kpb.out Kpa.out).mono ?_
        rintro e w9 ⟨rfl, h9⟩
        exact hK _ (below_next hS h9)
      simp only [Act.put, List.setIfInBounds_toArray, List.set_cons_zero, List.set_cons_succ]
      refine Flow.step ?_ ?_ ?_
      rotate_left
      · intro V K hS hK
        go_simp
        exact hK _ hS
      simp only [Act.put, List.setIfInBounds_toArray, List.set_cons_zero, List.set_cons_succ]
      refine Flow.step ?_ ?_ ?_
      rotate_left
      · intro V K hS hK
        go_simp
        exact hK _ hS
      simp only [Act.put, List.setIfInBounds_toArray, List.set_cons_zero, List.set_cons_succ]
      refine Flow.step ?_ ?_ ?_
      rotate_left
      · intro V K hS hK
        go_simp
        exact hK _ hS
      simp only [Act.put, List.setIfInBounds_toArray, List.set_cons_zero, List.set_cons_succ]
      refine Flow.step ?_ ?_ ?_
      rotate_left
      · intro V K hS hK
        go_simp
        exact hK _ hS
      simp only [Act.put, List.setIfInBounds_toArray, List.set_cons_zero, List.set_cons_succ]
      refine Flow.step ?_ ?_ ?_
      rotate_left
      · intro V K hS hK
        go_simp
        exact hK _ hS
      simp only [Act.put, List.setIfInBounds_toArray, List.set_cons_zero, List.set_cons_succ]
      refine Flow.step ?_ ?_ ?_
      rotate_left
      · intro V K hS hK
        go_simp
        exact hK _ hS
      simp only [Act.put, List.setIfInBounds_toArray, List.set_cons_zero, List.set_cons_succ]
      refine Flow.step ?_ ?_ ?_
      rotate_left
      · intro V K hS hK
        go_simp
        exact hK _ hS
      simp only [Act.put, List.setIfInBounds_toArray, List.set_cons_zero, List.set_cons_succ]
      refine Flow.done ?_
      intro V hS
      have HV := Lib.hid hS
      clear hS HBw
      go_wp2_with fail
      generalize V = Va at *
      refine wp_region_flow (S := fun V => Below W3.heap.size W3 V) (by kernel_rfl) (by kernel_rfl) (Below.drew (HV.out)) ?_
      refine Flow.step ?_ ?_ ?_
      rotate_left
      · intro V K hS hK
        obtain ⟨jv, jw, jx, jy, jz⟩ := (KF.out V (hS)).1.1.2
        go_simp
        exact hK _ hS
      simp only [Act.put, List.setIfInBounds_toArray, List.set_cons_zero, List.set_cons_succ]
      refine Flow.step ?_ ?_ ?_
      rotate_left
      · intro V K hS hK
        go_simp
        exact hK _ hS
      simp only [Act.put, List.setIfInBounds_toArray, List.set_cons_zero, List.set_cons_succ]
      refine Flow.step ?_ ?_ ?_
      rotate_left
      · intro V K hS hK
        go_simp
        exact hK _ hS
      simp only [Act.put, List.setIfInBounds_toArray, List.set_cons_zero, List.set_cons_succ]
      refine Flow.step ?_ ?_ ?_
      rotate_left
      · intro V K hS hK
        obtain ⟨n0, n1⟩ := KP.out V hS
        go_simp
        exact hK _ hS
      simp only [Act.put, List.setIfInBounds_toArray, List.set_cons_zero, List.set_cons_succ]
      refine Flow.step ?_ ?_ ?_
      rotate_left
      · intro V K hS hK
        go_simp
        go_at_call 27
        refine (roffset_any q1 q4 q2 q5 q3 q6 J pb pa V (KF.out V (hS)).1.2 Kpb.out Kpa.out).mono ?_
        rintro e w9 ⟨rfl, h9⟩
        exact hK _ (below_next hS h9)
      simp only [Act.put, List.setIfInBounds_toArray, List.set_cons_zero, List.set_cons_succ]
      refine Flow.step ?_ ?_ ?_
      rotate_left
      · intro V K hS hK
        go_simp
        exact hK _ hS
      simp only [Act.put, List.setIfInBounds_toArray, List.set_cons_zero, List.set_cons_succ]
      refine Flow.step ?_ ?_ ?_
      rotate_left
      · intro V K hS hK
        go_simp
        exact hK _ hS
      simp only [Act.put, List.setIfInBounds_toArray, List.set_cons_zero, List.set_cons_succ]
      refine Flow.step ?_ ?_ ?_
      rotate_left
      · intro V K hS hK
        go_simp
        exact hK _ hS
      simp only [Act.put, List.setIfInBounds_toArray, List.set_cons_zero, List.set_cons_succ]
      refine Flow.step ?_ ?_ ?_
      rotate_left
      · intro V K hS hK
        go_simp
        exact hK _ hS
      simp only [Act.put, List.setIfInBounds_toArray, List.set_cons_zero, List.set_cons_succ]
      refine Flow.step ?_ ?_ ?_
      rotate_left
      · intro V K hS hK
        go_simp
        exact hK _ hS
      simp only [Act.put, List.setIfInBounds_toArray, List.set_cons_zero, List.set_cons_succ]
      refine Flow.step ?_ ?_ ?_
      rotate_left
      · intro V K hS hK
        go_simp
        exact hK _ hS
      simp only [Act.put, List.setIfInBounds_toArray, List.set_cons_zero, List.set_cons_succ]
      refine Flow.step ?_ ?_ ?_
      rotate_left
      · intro V K hS hK
        go_simp
        exact hK _ hS
      simp only [Act.put, List.setIfInBounds_toArray, List.set_cons_zero, List.set_cons_succ]
      refine Flow.done ?_
      intro V hS
      have HU := Lib.hid hS
      clear hS HV
      go_wp2_with fail
      generalize V = Vb at *
      refine wp_region_flow (S := fun V => Below W3.heap.size W3 V) (by kernel_rfl) (by kernel_rfl) (Below.drew (HU.out)) ?_
      refine Flow.step ?_ ?_ ?_
      rotate_left
      · intro V K hS hK
        go_simp
        exact hK _ hS
      simp only [Act.put, List.setIfInBounds_toArray, List.set_cons_zero, List.set_cons_succ]
      refine Flow.step ?_ ?_ ?_
      rotate_left
      · intro V K hS hK
        go_simp
        exact hK _ hS
      simp only [Act.put, List.setIfInBounds_toArray, List.set_cons_zero, List.set_cons_succ]
      refine Flow.step ?_ ?_ ?_
      rotate_left
      · intro V K hS hK
        go_simp
        exact hK _ hS
      simp only [Act.put, List.setIfInBounds_toArray, List.set_cons_zero, List.set_cons_succ]
      refine Flow.step ?_ ?_ ?_
      rotate_left
      · intro V K hS hK
        go_simp
        exact hK _ hS
      simp only [Act.put, List.setIfInBounds_toArray, List.set_cons_zero, List.set_cons_succ]
      refine Flow.step ?_ ?_ ?_
      rotate_left
      · intro V K hS hK
        go_simp
        exact hK _ hS
      simp only [Act.put, List.setIfInBounds_toArray, List.set_cons_zero, List.set_cons_succ]
      refine Flow.step ?_ ?_ ?_
      rotate_left
      · intro V K hS hK
        go_simp
        exact hK _ hS
      simp only [Act.put, List.setIfInBounds_toArray, List.set_cons_zero, List.set_cons_succ]
      refine Flow.step ?_ ?_ ?_
      rotate_left
      · intro V K hS hK
        go_simp
        exact hK _ hS
      simp only [Act.put, List.setIfInBounds_toArray, List.set_cons_zero, List.set_cons_succ]
      refine Flow.step ?_ ?_ ?_
      rotate_left
      · intro V K hS hK
        go_simp
        exact hK _ hS
      simp only [Act.put, List.setIfInBounds_toArray, List.set_cons_zero, List.set_cons_succ]
      refine Flow.step ?_ ?_ ?_
      rotate_left
      · intro V K hS hK
        go_simp
        exact hK _ hS
      simp only [Act.put, List.setIfInBounds_toArray, List.set_cons_zero, List.set_cons_succ]
      refine Flow.step ?_ ?_ ?_
      rotate_left
      · intro V K hS hK
        go_simp
        exact hK _ hS
      simp only [Act.put, List.setIfInBounds_toArray, List.set_cons_zero, List.set_cons_succ]
      refine Flow.step ?_ ?_ ?_
      rotate_left
      · intro V K hS hK
        go_simp
        exact hK _ hS
      simp only [Act.put, List.setIfInBounds_toArray, List.set_cons_zero, List.set_cons_succ]
      refine Flow.step ?_ ?_ ?_
      rotate_left
      · intro V K hS hK
        go_simp
        exact hK _ hS
      simp only [Act.put, List.setIfInBounds_toArray, List.set_cons_zero, List.set_cons_succ]
      refine Flow.step ?_ ?_ ?_
      rotate_left
      · intro V K hS hK
        go_simp
        exact hK _ hS
      simp only [Act.put, List.setIfInBounds_toArray, List.set_cons_zero, List.set_cons_succ]
      refine Flow.step ?_ ?_ ?_
      rotate_left
      · intro V K hS hK
        go_simp
        exact hK _ hS
      simp only [Act.put, List.setIfInBounds_toArray, List.set_cons_zero, List.set_cons_succ]
      refine Flow.step ?_ ?_ ?_
      rotate_left
      · intro V K hS hK
        obtain ⟨jv, jw, jx, jy, jz⟩ := (KF.out V (hS)).1.1.2
        go_simp
        exact hK _ hS
      simp only [Act.put, List.setIfInBounds_toArray, List.set_cons_zero, List.set_cons_succ]
      refine Flow.step ?_ ?_ ?_
      rotate_left
      · intro V K hS hK
        go_simp
        exact hK _ hS
      simp only [Act.put, List.setIfInBounds_toArray, List.set_cons_zero, List.set_cons_succ]
      refine Flow.step ?_ ?_ ?_
      rotate_left
      · intro V K hS hK
        go_simp
        exact hK _ hS
      simp only [Act.put, List.setIfInBounds_toArray, List.set_cons_zero, List.set_cons_succ]
      refine Flow.step ?_ ?_ ?_
      rotate_left
      · intro V K hS hK
        obtain ⟨n0, n1⟩ := KP.out V hS
        go_simp
        exact hK _ hS
      simp only [Act.put, List.setIfInBounds_toArray, List.set_cons_zero, List.set_cons_succ]
      refine Flow.step ?_ ?_ ?_
      rotate_left
      · intro V K hS hK
        go_simp
        exact hK _ hS
      simp only [Act.put, List.setIfInBounds_toArray, List.set_cons_zero, List.set_cons_succ]
      refine Flow.step ?_ ?_ ?_
      rotate_left
      · intro V K hS hK
        obtain ⟨ea, eb, ec⟩ := (KF.out V (hS)).1.1.1.2.2
        go_simp
        exact hK _ hS
      simp only [Act.put, List.setIfInBounds_toArray, List.set_cons_zero, List.set_cons_succ]
      refine Flow.step ?_ ?_ ?_
      rotate_left
      · intro V K hS hK
        go_simp
        go_at_call 28
        refine (code1_any q1 q4 q2 q5 q3 q6 J pb pa c V (KF.out V (hS)).1.2 Kpb.out Kpa.out Kc.out).mono ?_
        rintro e w9 ⟨rfl, h9⟩
        exact hK _ (below_next hS h9)
      simp only [Act.put, List.setIfInBounds_toArray, List.set_cons_zero, List.set_cons_succ]
      refine Flow.step ?_ ?_ ?_
      rotate_left
      · intro V K hS hK
        obtain ⟨jv, jw, jx, jy, jz⟩ := (KF.out V (hS)).1.1.2
        go_simp
        exact hK _ hS
      simp only [Act.put, List.setIfInBounds_toArray, List.set_cons_zero, List.set_cons_succ]
      refine Flow.step ?_ ?_ ?_
      rotate_left
      · intro V K hS hK
        go_simp
        exact hK _ hS
      simp only [Act.put, List.setIfInBounds_toArray, List.set_cons_zero, List.set_cons_succ]
      refine Flow.step ?_ ?_ ?_
      rotate_left
      · intro V K hS hK
        go_simp
        exact hK _ hS
      simp only [Act.put, List.setIfInBounds_toArray, List.set_cons_zero, List.set_cons_succ]
      refine Flow.step ?_ ?_ ?_
      rotate_left
      · intro V K hS hK
        obtain ⟨n0, n1⟩ := KP.out V hS
        go_simp
        exact hK _ hS
      simp only [Act.put, List.setIfInBounds_toArray, List.set_cons_zero, List.set_cons_succ]
      refine Flow.step ?_ ?_ ?_
      rotate_left
      · intro V K hS hK
        go_simp
        exact hK _ hS
      simp only [Act.put, List.setIfInBounds_toArray, List.set_cons_zero, List.set_cons_succ]
      refine Flow.step ?_ ?_ ?_
      rotate_left
      · intro V K hS hK
        obtain ⟨ea, eb, ec⟩ := (KF.out V (hS)).1.1.1.2.2
        go_simp
        exact hK _ hS
      simp only [Act.put, List.setIfInBounds_toArray, List.set_cons_zero, List.set_cons_succ]
      refine Flow.step ?_ ?_ ?_
      rotate_left
      · intro V K hS hK
        go_simp
        go_at_call 29
        refine (rcode1_any q1 q4 q2 q5 q3 q6 J pb pa c V (KF.out V (hS)).1.2 Kpb.out Kpa.out Kc.out).mono ?_
        rintro e w9 ⟨rfl, h9⟩
        exact hK _ (below_next hS h9)
      simp only [Act.put, List.setIfInBounds_toArray, List.set_cons_zero, List.set_cons_succ]
      refine Flow.step ?_ ?_ ?_
      rotate_left
      · intro V K hS hK
        go_simp
        exact hK _ hS
      simp only [Act.put, List.setIfInBounds_toArray, List.set_cons_zero, List.set_cons_succ]
      refine Flow.step ?_ ?_ ?_
      rotate_left
      · intro V K hS hK
        go_simp
        exact hK _ hS
      simp only [Act.put, List.setIfInBounds_toArray, List.set_cons_zero, List.set_cons_succ]
      refine Flow.done ?_
      intro V hS
      have HX := Lib.hid hS
      clear hS HU
      go_wp2_with fail
      go_roundw
      case rel => exact ⟨k + 1, by omega, by go_num, HX.out⟩
      case measure => simp [intOf]; omega
    · obtain rfl : k = 2 := by omega
      go_wp2_with fail
      go_ret
      exact ⟨rfl, (KF.out _ (HBw.out)).1.1.1.1⟩
end Go.Proofs.Ytgdiaaoekkdibaa
