/- ImageObjects: the walk of the law. -/
import Derived.Test.YtgdiaaoekkdibaaT8
import Derived.Test.YtgdiaaoekkdibaaD2
import Derived.Test.YtgdiaaoekkdibaaE2
import Derived.Test.YtgdiaaoekkdibaaI1
import Derived.Test.YtgdiaaoekkdibaaI12
import Derived.Test.YtgdiaaoekkdibaaI10
import Derived.Test.YtgdiaaoekkdibaaR2
namespace Go.Proofs.Ytgdiaaoekkdibaa
set_option linter.unusedVariables false
set_option linter.unusedSimpArgs false
open Go.RowKit
def DrawnV (v : Value) (V : World) : Prop := ∃ (I : Img) (p1 : Option Addr) (p4 : Nat) (p2 : Option Addr) (p5 : Nat) (p3 : Option Addr) (p6 : Nat), v = imgV p1 p4 p2 p5 p3 p6 I ∧ ImgAt V p1 p2 p3 I ∧ checkI I = 0 ∧ I.banks.length ≤ 3 ∧ I.data.length ≤ 28 ∧ I.relocs.length ≤ 78
def TurnedV (v : Value) (V : World) : Prop := ∃ (I : Img) (p1 : Option Addr) (p4 : Nat) (p2 : Option Addr) (p5 : Nat) (p3 : Option Addr) (p6 : Nat), v = imgV p1 p4 p2 p5 p3 p6 I ∧ ImgAt V p1 p2 p3 I ∧ (∀ s ∈ I.banks, s.size ≤ 4096) ∧ I.banks.length ≤ 3 ∧ I.data.length ≤ 28 ∧ I.relocs.length ≤ 79
theorem isreloc_hit (p1 : Option Addr) (c1 : Nat) (p2 : Option Addr) (c2 : Nat) (p3 : Option Addr) (c3 : Nat) (I : Img) (b a : Int) (w : World) (hI : ImgAt w p1 p2 p3 I) (hb : OkI64 b) (ha : OkI64 a) (h : isRel I.relocs b a = true) :
    Calls Try.prog 32 #[imgV p1 c1 p2 c2 p3 c3 I, .int .i64 b, .int .i64 a] w fun e w' => e = .returned (.bool true) ∧ Below w.heap.size w w' := by
  have := isreloc_any p1 c1 p2 c2 p3 c3 I b a w hI hb ha
  rwa [h] at this
set_option maxRecDepth 8000 in
set_option maxHeartbeats 8000000 in
theorem imageObjects_walk (ps : Option Addr) (pc : Nat) (S : List Int) (x y z : Int) (a b : Int) (w : World) (hlS : S.length ≤ 9223372036854775807) (hSS : IntsAt w ps S) (x0 : -9223372036854775808 ≤ x) (x1 : x ≤ 9223372036854775807) (y0 : -9223372036854775808 ≤ y) (y1 : y ≤ 9223372036854775807) (z0 : -9223372036854775808 ≤ z) (z1 : z ≤ 9223372036854775807) (a0 : -9223372036854775808 ≤ a) (a1 : a ≤ 9223372036854775807) (b0 : -9223372036854775808 ≤ b) (b1 : b ≤ 9223372036854775807) :
    Calls Try.prog 10 #[.slice ps S.length pc, .agg #[.int .i64 x, .int .i64 y, .int .i64 z], .agg #[.int .i64 a, .int .i64 b]] w fun e w' => e = .returned (.bool true) ∧ Below w.heap.size w w' := by
  have KSS := Lib.hid hSS
  have KLS := Lib.hid hlS
  have Kx : Hid (OkI64 x) := ⟨x0, x1⟩
  have Ky : Hid (OkI64 y) := ⟨y0, y1⟩
  have Kz : Hid (OkI64 z) := ⟨z0, z1⟩
  have Ka : Hid (OkI64 a) := ⟨a0, a1⟩
  have Kb : Hid (OkI64 b) := ⟨b0, b1⟩
  clear hSS hlS x0 x1 y0 y1 z0 z1 a0 a1 b0 b1
  have KF := Lib.hid (fun V (hb : Below ((w.alloc (Obj.cells #[.int .i64 x, .int .i64 y, .int .i64 z] 23)).alloc (Obj.cells #[.int .i64 a, .int .i64 b] 49)).heap.size ((w.alloc (Obj.cells #[.int .i64 x, .int .i64 y, .int .i64 z] 23)).alloc (Obj.cells #[.int .i64 a, .int .i64 b] 49)) V) => And.intro (below_next (below_alloc (below1 w (Obj.cells #[.int .i64 x, .int .i64 y, .int .i64 z] 23)) (Obj.cells #[.int .i64 a, .int .i64 b] 49)) hb) (two_boxes_32 w x y z a b V hb))
  go_enter Try.func10, Try.ntmps10
  go_wp2_with fail
  have hw0 : ((w.alloc (Obj.cells #[.int .i64 x, .int .i64 y, .int .i64 z] 23)).alloc (Obj.cells #[.int .i64 a, .int .i64 b] 49)).heap.size = w.heap.size + 2 := by simp
  generalize ((w.alloc (Obj.cells #[.int .i64 x, .int .i64 y, .int .i64 z] 23)).alloc (Obj.cells #[.int .i64 a, .int .i64 b] 49)) = W0 at *
  refine (sanity_any _).mono ?_
  rintro e w1 ⟨rfl, h1⟩
  replace KF := Lib.hid (fun V (hb : Below w1.heap.size w1 V) => KF.out V (below_next (h1) hb))
  clear h1
  go_wp2_with fail
  refine' wp_region_flowR [[], [(20, 0)], [], [(21, 1), (22, 2)], [], [(20, 0), (21, 1), (22, 2), (23, 3), (8, 4)]] (relL [eqV _, DrawnV, eqV _, TurnedV, ptrTo (Obj.cells #[Value.slice none 0 0, Value.int IntKind.u16 0, Value.int IntKind.u16 0, Value.slice none 0 0, Value.slice none 0 0] 30) w1, fun v V => True]) (by kernel_rfl) (by kernel_rfl) ?_
  rotate_left 2
  refine FlowR.step ?_ ?_
  · intro V hV
    simp only [Dep, Act.put, List.setIfInBounds_toArray, List.set_cons_zero, List.set_cons_succ]
    intro K hK
    go_simp
    refine hK _ _ ?_ (Below.refl _ _)
    simp only [relL, List.getElem?_cons_zero, List.getElem?_cons_succ, eqV]
    exact rfl
  refine FlowR.step ?_ ?_
  · intro V hV
    simp only [Dep, Act.put, List.setIfInBounds_toArray, List.set_cons_zero, List.set_cons_succ]
    rintro x20 ⟨V20, rfl, hb20⟩
    intro K hK
    go_simp
    go_at_call 16
    refine (drawn_any ps pc S V KLS.out (KSS.out.kept (KF.out V (hV)).1)).mono ?_
    rintro e w9 ⟨I, p1, p4, p2, p5, p3, p6, rfl, hI, hc, l1, l2, l3, h9⟩
    exact hK _ _ (⟨I, p1, p4, p2, p5, p3, p6, rfl, hI, hc, l1, l2, l3⟩) h9
  refine FlowR.step ?_ ?_
  · intro V hV
    simp only [Dep, Act.put, List.setIfInBounds_toArray, List.set_cons_zero, List.set_cons_succ]
    intro K hK
    obtain ⟨ex, ey, ez⟩ := (KF.out V (hV)).2.1
    go_simp
    refine hK _ _ ?_ (Below.refl _ _)
    simp only [relL, List.getElem?_cons_zero, List.getElem?_cons_succ, eqV]
    exact rfl
  refine FlowR.step ?_ ?_
  · intro V hV
    simp only [Dep, Act.put, List.setIfInBounds_toArray, List.set_cons_zero, List.set_cons_succ]
    rintro x21 ⟨V21, ⟨I, p1, p4, p2, p5, p3, p6, rfl, hI, hc, l1, l2, l3⟩, hb21⟩
    rintro x22 ⟨V22, rfl, hb22⟩
    intro K hK
    go_simp
    go_at_call 17
    refine (turned_any p1 p4 p2 p5 p3 p6 I x y z V (hI.kept hb21) (full_size hc) (by omega) (by omega) (by omega) Kx.out Ky.out Kz.out (TurnedPost I V) (Lib.hid fun _ _ h => h)).mono ?_
    rintro e w9 ⟨J, q1, q4, q2, q5, q3, q6, rfl, hJ, hF, m1, m2, m3, h9⟩
    exact hK _ _ (⟨J, q1, q4, q2, q5, q3, q6, rfl, hJ, hF, by omega, by omega, by omega⟩) h9
  refine FlowR.step ?_ ?_
  · intro V hV
    simp only [Dep, Act.put, List.setIfInBounds_toArray, List.set_cons_zero, List.set_cons_succ]
    intro K hK
    go_simp
    exact hK _ _ (ptr_at hV) (below1 _ _)
  refine FlowR.last ?_
  intro V hV
  simp only [Dep, Act.put, List.setIfInBounds_toArray, List.set_cons_zero, List.set_cons_succ]
  rintro x20 ⟨V20, rfl, hb20⟩
  rintro x21 ⟨V21, ⟨I, p1, p4, p2, p5, p3, p6, rfl, hI, hc, l1, l2, l3⟩, hb21⟩
  rintro x22 ⟨V22, rfl, hb22⟩
  rintro x23 ⟨V23, ⟨J, q1, q4, q2, q5, q3, q6, rfl, hJ, hF, m1, m2, m3⟩, hb23⟩
  rintro x8 ⟨V8, ⟨W9, rfl, rfl, hW9⟩, hb8⟩
  intro K hK
  obtain ⟨z0, g0⟩ := made_cells hb8 0 _ rfl
  obtain ⟨z1, g1⟩ := made_cells hb8 1 _ rfl
  obtain ⟨z2, g2⟩ := made_cells hb8 2 _ rfl
  obtain ⟨z3, g3⟩ := made_cells hb8 3 _ rfl
  obtain ⟨z4, g4⟩ := made_cells hb8 4 _ rfl
  obtain ⟨W2, eW2, hB2, hC2, hI2⟩ := stored_img hb8 hW9 q1 q4 q2 q5 q3 q6 J (hJ.kept hb23)
  have KE2 := Lib.hid eW2
  clear hI hc l1 l2 l3 hJ eW2 hb20 hb21 hb22
  simp only [imgV]
  go_simp
  rw [← KE2.out]
  refine hK _ _ ?_
  clear hK K z0 z1 z2 z3 z4 g0 g1 g2 g3 g4 KE2
  have HF := Lib.hid hF
  clear hF
  replace KF := Lib.hid (fun V (hb : Below W2.heap.size W2 V) => And.intro (And.intro (KF.out V (below_next hB2 hb)) (hC2 V hb)) (hI2.kept hb))
  clear hI2 hC2 hB2 hW9 hb23 hb8 hV
  obtain ⟨ea, eb⟩ := (KF.out _ (Below.refl _ _)).1.1.2.2
  have hs1 : IntKind.i64.wrap (a % 5 - 1) = a % 5 - 1 := IntWalk.i64_in _ (by omega)
  go_wp2_with fail
  refine (mod_any a 5 _ Ka.out (by decide) (by decide)).mono ?_
  rintro e w9 ⟨rfl, rfl⟩
  go_wp2_with fail
  clear ea eb
  clear hs1
  have hw : IntKind.u16.wrap (b % 1200) = b % 1200 := wrap_in _ (by omega) (by omega)
  have hw2 : IntKind.u16.wrap (16384 + b % 1200) = 16384 + b % 1200 := wrap_in _ (by omega) (by omega)
  have hw3 : IntKind.u16.wrap (b % 800) = b % 800 := wrap_in _ (by omega) (by omega)
  have hw4 : IntKind.u16.wrap (3000 + b % 800) = 3000 + b % 800 := wrap_in _ (by omega) (by omega)
  refine' wp_region_flowR [[], [(28, 0)], [(29, 1)], [], [(31, 3)], [(32, 4)], [(33, 5)], [(34, 6)], [], [(36, 8)], [(37, 9)], [(38, 10)], [(39, 11)], [(30, 2), (35, 7), (40, 12)], [], [(28, 0), (29, 1), (30, 2), (31, 3), (32, 4), (33, 5), (34, 6), (35, 7), (36, 8), (37, 9), (38, 10), (39, 11), (40, 12), (41, 13), (10, 14)]] (relL [eqV _, eqV _, eqV _, eqV _, eqV _, eqV _, eqV _, eqV _, eqV _, eqV _, eqV _, eqV _, eqV _, eqV _, ptrTo (Obj.cells #[Value.int IntKind.u16 0, Value.int IntKind.u16 0, Value.int IntKind.u16 0] 60) W2, fun v V => True]) (by kernel_rfl) (by kernel_rfl) ?_
  rotate_left 14
  refine FlowR.step ?_ ?_
  · intro V hV
    simp only [Dep, Act.put, List.setIfInBounds_toArray, List.set_cons_zero, List.set_cons_succ]
    intro K hK
    go_simp
    refine hK _ _ ?_ (Below.refl _ _)
    simp only [relL, List.getElem?_cons_zero, List.getElem?_cons_succ, eqV]
    exact rfl
  refine FlowR.step ?_ ?_
  · intro V hV
    simp only [Dep, Act.put, List.setIfInBounds_toArray, List.set_cons_zero, List.set_cons_succ]
    rintro x28 ⟨V28, rfl, hb28⟩
    intro K hK
    obtain ⟨ea, eb⟩ := (KF.out V (hV)).1.1.2.2
    go_simp
    refine hK _ _ ?_ (Below.refl _ _)
    simp only [relL, List.getElem?_cons_zero, List.getElem?_cons_succ, eqV]
    exact rfl
  refine FlowR.step ?_ ?_
  · intro V hV
    simp only [Dep, Act.put, List.setIfInBounds_toArray, List.set_cons_zero, List.set_cons_succ]
    rintro x29 ⟨V29, rfl, hb29⟩
    intro K hK
    go_simp
    refine hK _ _ ?_ (Below.refl _ _)
    simp only [relL, List.getElem?_cons_zero, List.getElem?_cons_succ, eqV]
    exact rfl
  refine FlowR.step ?_ ?_
  · intro V hV
    simp only [Dep, Act.put, List.setIfInBounds_toArray, List.set_cons_zero, List.set_cons_succ]
    intro K hK
    go_simp
    refine hK _ _ ?_ (Below.refl _ _)
    simp only [relL, List.getElem?_cons_zero, List.getElem?_cons_succ, eqV]
    exact rfl
  refine FlowR.step ?_ ?_
  · intro V hV
    simp only [Dep, Act.put, List.setIfInBounds_toArray, List.set_cons_zero, List.set_cons_succ]
    rintro x31 ⟨V31, rfl, hb31⟩
    intro K hK
    obtain ⟨ea, eb⟩ := (KF.out V (hV)).1.1.2.2
    go_simp
    refine hK _ _ ?_ (Below.refl _ _)
    simp only [relL, List.getElem?_cons_zero, List.getElem?_cons_succ, eqV]
    exact rfl
  refine FlowR.step ?_ ?_
  · intro V hV
    simp only [Dep, Act.put, List.setIfInBounds_toArray, List.set_cons_zero, List.set_cons_succ]
    rintro x32 ⟨V32, rfl, hb32⟩
    intro K hK
    go_simp
    go_at_call 20
    refine (mod_any b 1200 V Kb.out (by decide) (by decide)).mono ?_
    rintro e w9 ⟨rfl, rfl⟩
    refine hK _ _ ?_ (Below.refl _ _)
    simp only [relL, List.getElem?_cons_zero, List.getElem?_cons_succ, eqV]
    exact rfl
  refine FlowR.step ?_ ?_
  · intro V hV
    simp only [Dep, Act.put, List.setIfInBounds_toArray, List.set_cons_zero, List.set_cons_succ]
    rintro x33 ⟨V33, rfl, hb33⟩
    intro K hK
    go_simp
    refine hK _ _ ?_ (Below.refl _ _)
    simp only [relL, List.getElem?_cons_zero, List.getElem?_cons_succ, eqV]
    exact rfl
  refine FlowR.step ?_ ?_
  · intro V hV
    simp only [Dep, Act.put, List.setIfInBounds_toArray, List.set_cons_zero, List.set_cons_succ]
    rintro x34 ⟨V34, rfl, hb34⟩
    intro K hK
    go_simp
    refine hK _ _ ?_ (Below.refl _ _)
    simp only [relL, List.getElem?_cons_zero, List.getElem?_cons_succ, eqV]
    exact rfl
  refine FlowR.step ?_ ?_
  · intro V hV
    simp only [Dep, Act.put, List.setIfInBounds_toArray, List.set_cons_zero, List.set_cons_succ]
    intro K hK
    go_simp
    refine hK _ _ ?_ (Below.refl _ _)
    simp only [relL, List.getElem?_cons_zero, List.getElem?_cons_succ, eqV]
    exact rfl
  refine FlowR.step ?_ ?_
  · intro V hV
    simp only [Dep, Act.put, List.setIfInBounds_toArray, List.set_cons_zero, List.set_cons_succ]
    rintro x36 ⟨V36, rfl, hb36⟩
    intro K hK
    obtain ⟨ea, eb⟩ := (KF.out V (hV)).1.1.2.2
    go_simp
    refine hK _ _ ?_ (Below.refl _ _)
    simp only [relL, List.getElem?_cons_zero, List.getElem?_cons_succ, eqV]
    exact rfl
  refine FlowR.step ?_ ?_
  · intro V hV
    simp only [Dep, Act.put, List.setIfInBounds_toArray, List.set_cons_zero, List.set_cons_succ]
    rintro x37 ⟨V37, rfl, hb37⟩
    intro K hK
    go_simp
    go_at_call 20
    refine (mod_any b 800 V Kb.out (by decide) (by decide)).mono ?_
    rintro e w9 ⟨rfl, rfl⟩
    refine hK _ _ ?_ (Below.refl _ _)
    simp only [relL, List.getElem?_cons_zero, List.getElem?_cons_succ, eqV]
    exact rfl
  refine FlowR.step ?_ ?_
  · intro V hV
    simp only [Dep, Act.put, List.setIfInBounds_toArray, List.set_cons_zero, List.set_cons_succ]
    rintro x38 ⟨V38, rfl, hb38⟩
    intro K hK
    go_simp
    refine hK _ _ ?_ (Below.refl _ _)
    simp only [relL, List.getElem?_cons_zero, List.getElem?_cons_succ, eqV]
    exact rfl
  refine FlowR.step ?_ ?_
  · intro V hV
    simp only [Dep, Act.put, List.setIfInBounds_toArray, List.set_cons_zero, List.set_cons_succ]
    rintro x39 ⟨V39, rfl, hb39⟩
    intro K hK
    go_simp
    refine hK _ _ ?_ (Below.refl _ _)
    simp only [relL, List.getElem?_cons_zero, List.getElem?_cons_succ, eqV]
    exact rfl
  refine FlowR.step ?_ ?_
  · intro V hV
    simp only [Dep, Act.put, List.setIfInBounds_toArray, List.set_cons_zero, List.set_cons_succ]
    rintro x30 ⟨V30, rfl, hb30⟩
    rintro x35 ⟨V35, rfl, hb35⟩
    rintro x40 ⟨V40, rfl, hb40⟩
    intro K hK
    go_simp
    refine hK _ _ ?_ (Below.refl _ _)
    simp only [relL, List.getElem?_cons_zero, List.getElem?_cons_succ, eqV]
    exact rfl
  refine FlowR.step ?_ ?_
  · intro V hV
    simp only [Dep, Act.put, List.setIfInBounds_toArray, List.set_cons_zero, List.set_cons_succ]
    intro K hK
    go_simp
    exact hK _ _ (ptr_at hV) (below1 _ _)
  refine FlowR.last ?_
  intro V hV
  simp only [Dep, Act.put, List.setIfInBounds_toArray, List.set_cons_zero, List.set_cons_succ]
  rintro x28 ⟨V28, rfl, hb28⟩
  rintro x29 ⟨V29, rfl, hb29⟩
  rintro x30 ⟨V30, rfl, hb30⟩
  rintro x31 ⟨V31, rfl, hb31⟩
  rintro x32 ⟨V32, rfl, hb32⟩
  rintro x33 ⟨V33, rfl, hb33⟩
  rintro x34 ⟨V34, rfl, hb34⟩
  rintro x35 ⟨V35, rfl, hb35⟩
  rintro x36 ⟨V36, rfl, hb36⟩
  rintro x37 ⟨V37, rfl, hb37⟩
  rintro x38 ⟨V38, rfl, hb38⟩
  rintro x39 ⟨V39, rfl, hb39⟩
  rintro x40 ⟨V40, rfl, hb40⟩
  rintro x41 ⟨V41, rfl, hb41⟩
  rintro x10 ⟨V10, ⟨WL, rfl, rfl, hWL⟩, hb10⟩
  intro K hK
  obtain ⟨z0, g0⟩ := made_cells hb10 0 _ rfl
  obtain ⟨z1, g1⟩ := made_cells hb10 1 _ rfl
  obtain ⟨z2, g2⟩ := made_cells hb10 2 _ rfl
  obtain ⟨hB2, hC2⟩ := stored hb10 hWL [.int .u16 (IntKind.u16.wrap b), .int .u16 (16384 + b % 1200), .int .u16 (3000 + b % 800)] rfl
  simp only [setAll] at hB2 hC2
  go_simp
  refine hK _ _ ?_
  clear hK K z0 z1 z2 g0 g1 g2
  generalize ((V.setCell ⟨WL.heap.size, 0, none⟩ (.int .u16 (IntKind.u16.wrap b))).setCell ⟨WL.heap.size, 1, none⟩ (.int .u16 (16384 + b % 1200))).setCell ⟨WL.heap.size, 2, none⟩ (.int .u16 (3000 + b % 800)) = W3 at *
  replace KF := Lib.hid (fun V (hb : Below W3.heap.size W3 V) => And.intro (KF.out V (below_next hB2 hb)) (hC2 V hb))
  clear hB2 hC2 hb10 hWL hV
  clear hb28 V28 hb29 V29 hb30 V30 hb31 V31 hb32 V32 hb33 V33 hb34 V34 hb35 V35 hb36 V36 hb37 V37 hb38 V38 hb39 V39 hb40 V40 hb41 V41
  clear V
  clear hw hw2 hw3 hw4
  have Kc : Hid (OkI64 (a % 5 - 1)) := ⟨by omega, by omega⟩
  go_wp2_with fail
  go_loopw [11] (fun i wr => ∃ k : Nat, k ≤ 3 ∧ i = .int .i64 k ∧ Below W3.heap.size W3 wr) (fun i _ => 3 - (intOf i).toNat)
  case atStart => exact ⟨0, by omega, rfl, Below.refl _ _⟩
  case round =>
    obtain ⟨k, hk, rfl, hBw⟩ := hrel
    have HBw := Lib.hid hBw
    clear hBw
    by_cases hlt : k < 3
    · obtain ⟨pa, hpa, hpc⟩ : ∃ pa : Int, OkU16 pa ∧ ∀ V, Below W3.heap.size W3 V → V.cell? ⟨WL.heap.size, k, none⟩ = some (.int .u16 pa) := by
        rcases (show k = 0 ∨ k = 1 ∨ k = 2 by omega) with rfl | rfl | rfl
        · exact ⟨IntKind.u16.wrap b, by rw [IntKind.wrap_u16]; exact ⟨by omega, by omega⟩, fun V hb => (KF.out V (hb)).2 0 _ rfl⟩
        · exact ⟨16384 + b % 1200, ⟨by omega, by omega⟩, fun V hb => (KF.out V (hb)).2 1 _ rfl⟩
        · exact ⟨3000 + b % 800, ⟨by omega, by omega⟩, fun V hb => (KF.out V (hb)).2 2 _ rfl⟩
      have KP := Lib.hid hpc
      have Kpa := Lib.hid hpa
      clear hpc hpa
      have hk0 : (0 : Int) ≤ (k : Int) := by omega
      have hk2 : (k : Int) < 3 := by omega
      go_wp2_with fail
      refine wp_region_flow (S := fun V => Below W3.heap.size W3 V) (by kernel_rfl) (by kernel_rfl) (Below.drew (HBw.out)) ?_
      refine Flow.step ?_ ?_ ?_
      rotate_left
      · intro V K hS hK
        go_simp
        exact hK _ hS
      simp only [Act.put, List.setIfInBounds_toArray, List.set_cons_zero, List.set_cons_succ]
      refine Flow.step ?_ ?_ ?_
      rotate_left
      · intro V K hS hK
        obtain ⟨jv, jw, jx, jy, jz⟩ := (KF.out V (hS)).1.1.2
        go_simp
        exact hK _ hS
      simp only [Act.put, List.setIfInBounds_toArray, List.set_cons_zero, List.set_cons_succ]
      refine Flow.step ?_ ?_ ?_
      rotate_left
      · intro V K hS hK
        go_simp
        exact hK _ hS
      simp only [Act.put, List.setIfInBounds_toArray, List.set_cons_zero, List.set_cons_succ]
      refine Flow.step ?_ ?_ ?_
      rotate_left
      · intro V K hS hK
        go_simp
        exact hK _ hS
      simp only [Act.put, List.setIfInBounds_toArray, List.set_cons_zero, List.set_cons_succ]
      refine Flow.step ?_ ?_ ?_
      rotate_left
      · intro V K hS hK
        go_simp
        exact hK _ hS
      simp only [Act.put, List.setIfInBounds_toArray, List.set_cons_zero, List.set_cons_succ]
      refine Flow.step ?_ ?_ ?_
      rotate_left
      · intro V K hS hK
        obtain n0 := KP.out V hS
        go_simp
        exact hK _ hS
      simp only [Act.put, List.setIfInBounds_toArray, List.set_cons_zero, List.set_cons_succ]
      refine Flow.step ?_ ?_ ?_
      rotate_left
      · intro V K hS hK
        go_simp
        go_at_call 30
        refine (objectAt_any q2 q5 J.data (a % 5 - 1) pa V (KF.out V (hS)).1.2.l2 (KF.out V (hS)).1.2.data Kc.out Kpa.out).mono ?_
        rintro e w9 ⟨rfl, h9⟩
        exact hK _ (below_next hS h9)
      simp only [Act.put, List.setIfInBounds_toArray, List.set_cons_zero, List.set_cons_succ]
      refine Flow.step ?_ ?_ ?_
      rotate_left
      · intro V K hS hK
        go_simp
        exact hK _ hS
      simp only [Act.put, List.setIfInBounds_toArray, List.set_cons_zero, List.set_cons_succ]
      refine Flow.step ?_ ?_ ?_
      rotate_left
      · intro V K hS hK
        go_simp
        exact hK _ hS
      simp only [Act.put, List.setIfInBounds_toArray, List.set_cons_zero, List.set_cons_succ]
      refine Flow.step ?_ ?_ ?_
      rotate_left
      · intro V K hS hK
        go_simp
        exact hK _ hS
      simp only [Act.put, List.setIfInBounds_toArray, List.set_cons_zero, List.set_cons_succ]
      refine Flow.step ?_ ?_ ?_
      rotate_left
      · intro V K hS hK
        go_simp
        exact hK _ hS
      simp only [Act.put, List.setIfInBounds_toArray, List.set_cons_zero, List.set_cons_succ]
      refine Flow.step ?_ ?_ ?_
      rotate_left
      · intro V K hS hK
        go_simp
        exact hK _ hS
      simp only [Act.put, List.setIfInBounds_toArray, List.set_cons_zero, List.set_cons_succ]
      refine Flow.step ?_ ?_ ?_
      rotate_left
      · intro V K hS hK
        go_simp
        exact hK _ hS
      simp only [Act.put, List.setIfInBounds_toArray, List.set_cons_zero, List.set_cons_succ]
      refine Flow.step ?_ ?_ ?_
      rotate_left
      · intro V K hS hK
        go_simp
        exact hK _ hS
      simp only [Act.put, List.setIfInBounds_toArray, List.set_cons_zero, List.set_cons_succ]
      refine Flow.done ?_
      intro V hS
      have HV := Lib.hid hS
      clear hS HBw
      go_wp2_with fail
      generalize V = Va at *
      refine wp_region_flow (S := fun V => Below W3.heap.size W3 V) (by kernel_rfl) (by kernel_rfl) (Below.drew (HV.out)) ?_
      refine Flow.step ?_ ?_ ?_
      rotate_left
      · intro V K hS hK
        go_simp
        exact hK _ hS
      simp only [Act.put, List.setIfInBounds_toArray, List.set_cons_zero, List.set_cons_succ]
      refine Flow.step ?_ ?_ ?_
      rotate_left
      · intro V K hS hK
        obtain ⟨jv, jw, jx, jy, jz⟩ := (KF.out V (hS)).1.1.2
        go_simp
        exact hK _ hS
      simp only [Act.put, List.setIfInBounds_toArray, List.set_cons_zero, List.set_cons_succ]
      refine Flow.step ?_ ?_ ?_
      rotate_left
      · intro V K hS hK
        go_simp
        exact hK _ hS
      simp only [Act.put, List.setIfInBounds_toArray, List.set_cons_zero, List.set_cons_succ]
      refine Flow.step ?_ ?_ ?_
      rotate_left
      · intro V K hS hK
        go_simp
        exact hK _ hS
      simp only [Act.put, List.setIfInBounds_toArray, List.set_cons_zero, List.set_cons_succ]
      refine Flow.step ?_ ?_ ?_
      rotate_left
      · intro V K hS hK
        go_simp
        exact hK _ hS
      simp only [Act.put, List.setIfInBounds_toArray, List.set_cons_zero, List.set_cons_succ]
      refine Flow.step ?_ ?_ ?_
      rotate_left
      · intro V K hS hK
        obtain n0 := KP.out V hS
        go_simp
        exact hK _ hS
      simp only [Act.put, List.setIfInBounds_toArray, List.set_cons_zero, List.set_cons_succ]
      refine Flow.step ?_ ?_ ?_
      rotate_left
      · intro V K hS hK
        go_simp
        go_at_call 31
        refine (robjectAt_any q2 q5 J.data (a % 5 - 1) pa V (KF.out V (hS)).1.2.l2 (KF.out V (hS)).1.2.data Kc.out Kpa.out).mono ?_
        rintro e w9 ⟨rfl, h9⟩
        exact hK _ (below_next hS h9)
      simp only [Act.put, List.setIfInBounds_toArray, List.set_cons_zero, List.set_cons_succ]
      refine Flow.step ?_ ?_ ?_
      rotate_left
      · intro V K hS hK
        go_simp
        exact hK _ hS
      simp only [Act.put, List.setIfInBounds_toArray, List.set_cons_zero, List.set_cons_succ]
      refine Flow.step ?_ ?_ ?_
      rotate_left
      · intro V K hS hK
        go_simp
        exact hK _ hS
      simp only [Act.put, List.setIfInBounds_toArray, List.set_cons_zero, List.set_cons_succ]
      refine Flow.step ?_ ?_ ?_
      rotate_left
      · intro V K hS hK
        go_simp
        exact hK _ hS
      simp only [Act.put, List.setIfInBounds_toArray, List.set_cons_zero, List.set_cons_succ]
      refine Flow.step ?_ ?_ ?_
      rotate_left
      · intro V K hS hK
        go_simp
        exact hK _ hS
      simp only [Act.put, List.setIfInBounds_toArray, List.set_cons_zero, List.set_cons_succ]
      refine Flow.step ?_ ?_ ?_
      rotate_left
      · intro V K hS hK
        go_simp
        exact hK _ hS
      simp only [Act.put, List.setIfInBounds_toArray, List.set_cons_zero, List.set_cons_succ]
      refine Flow.step ?_ ?_ ?_
      rotate_left
      · intro V K hS hK
        go_simp
        exact hK _ hS
      simp only [Act.put, List.setIfInBounds_toArray, List.set_cons_zero, List.set_cons_succ]
      refine Flow.step ?_ ?_ ?_
      rotate_left
      · intro V K hS hK
        go_simp
        exact hK _ hS
      simp only [Act.put, List.setIfInBounds_toArray, List.set_cons_zero, List.set_cons_succ]
      refine Flow.done ?_
      intro V hS
      have HU := Lib.hid hS
      clear hS HV
      go_wp2_with fail
      go_roundw
      case rel => exact ⟨k + 1, by omega, by go_num, HU.out⟩
      case measure => simp [intOf]; omega
    · obtain rfl : k = 3 := by omega
      have KG := Lib.hid (KF.out _ (HBw.out)).1.1.1.1
      obtain ⟨ea, eb⟩ := (KF.out _ (HBw.out)).1.1.1.2.2
      go_wp2_with fail
      refine (mod_any b 3000 _ Kb.out (by decide) (by decide)).mono ?_
      rintro e w8 ⟨rfl, rfl⟩
      go_wp2_with fail
      clear ea eb KG
      have Kd : Hid (OkI64 (b % 3000)) := ⟨by omega, by omega⟩
      rcases hR : J.relocs with _ | ⟨r, rs⟩
      · have hl0 : ((J.relocs.length : Int) == 0) = true := by rw [hR]; rfl
        clear hR
        refine wp_region_flow (S := fun V => Below W3.heap.size W3 V) (by kernel_rfl) (by kernel_rfl) (Below.drew (HBw.out)) ?_
        refine Flow.step ?_ ?_ ?_
        rotate_left
        · intro V K hS hK
          go_simp
          exact hK _ hS
        simp only [Act.put, List.setIfInBounds_toArray, List.set_cons_zero, List.set_cons_succ]
        refine Flow.step ?_ ?_ ?_
        rotate_left
        · intro V K hS hK
          go_simp
          exact hK _ hS
        simp only [Act.put, List.setIfInBounds_toArray, List.set_cons_zero, List.set_cons_succ]
        refine Flow.step ?_ ?_ ?_
        rotate_left
        · intro V K hS hK
          obtain ⟨jv, jw, jx, jy, jz⟩ := (KF.out V (hS)).1.1.2
          go_simp
          exact hK _ hS
        simp only [Act.put, List.setIfInBounds_toArray, List.set_cons_zero, List.set_cons_succ]
        refine Flow.step ?_ ?_ ?_
        rotate_left
        · intro V K hS hK
          go_simp
          exact hK _ hS
        simp only [Act.put, List.setIfInBounds_toArray, List.set_cons_zero, List.set_cons_succ]
        refine Flow.step ?_ ?_ ?_
        rotate_left
        · intro V K hS hK
          go_simp
          exact hK _ hS
        simp only [Act.put, List.setIfInBounds_toArray, List.set_cons_zero, List.set_cons_succ]
        refine Flow.step ?_ ?_ ?_
        rotate_left
        · intro V K hS hK
          go_simp
          go_at_call 32
          refine (isreloc_any q1 q4 q2 q5 q3 q6 J (a % 5 - 1) (b % 3000) V (KF.out V (hS)).1.2 Kc.out Kd.out).mono ?_
          rintro e w9 ⟨rfl, h9⟩
          exact hK _ (below_next hS h9)
        simp only [Act.put, List.setIfInBounds_toArray, List.set_cons_zero, List.set_cons_succ]
        refine Flow.step ?_ ?_ ?_
        rotate_left
        · intro V K hS hK
          obtain ⟨jv, jw, jx, jy, jz⟩ := (KF.out V (hS)).1.1.2
          go_simp
          exact hK _ hS
        simp only [Act.put, List.setIfInBounds_toArray, List.set_cons_zero, List.set_cons_succ]
        refine Flow.step ?_ ?_ ?_
        rotate_left
        · intro V K hS hK
          go_simp
          exact hK _ hS
        simp only [Act.put, List.setIfInBounds_toArray, List.set_cons_zero, List.set_cons_succ]
        refine Flow.step ?_ ?_ ?_
        rotate_left
        · intro V K hS hK
          go_simp
          exact hK _ hS
        simp only [Act.put, List.setIfInBounds_toArray, List.set_cons_zero, List.set_cons_succ]
        refine Flow.step ?_ ?_ ?_
        rotate_left
        · intro V K hS hK
          go_simp
          go_at_call 33
          refine (risreloc_any q1 q4 q2 q5 q3 q6 J (a % 5 - 1) (b % 3000) V (KF.out V (hS)).1.2 Kc.out Kd.out).mono ?_
          rintro e w9 ⟨rfl, h9⟩
          exact hK _ (below_next hS h9)
        simp only [Act.put, List.setIfInBounds_toArray, List.set_cons_zero, List.set_cons_succ]
        refine Flow.step ?_ ?_ ?_
        rotate_left
        · intro V K hS hK
          go_simp
          exact hK _ hS
        simp only [Act.put, List.setIfInBounds_toArray, List.set_cons_zero, List.set_cons_succ]
        refine Flow.step ?_ ?_ ?_
        rotate_left
        · intro V K hS hK
          go_simp
          exact hK _ hS
        simp only [Act.put, List.setIfInBounds_toArray, List.set_cons_zero, List.set_cons_succ]
        refine Flow.step ?_ ?_ ?_
        rotate_left
        · intro V K hS hK
          go_simp
          exact hK _ hS
        simp only [Act.put, List.setIfInBounds_toArray, List.set_cons_zero, List.set_cons_succ]
        refine Flow.step ?_ ?_ ?_
        rotate_left
        · intro V K hS hK
          obtain ⟨jv, jw, jx, jy, jz⟩ := (KF.out V (hS)).1.1.2
          go_simp
          exact hK _ hS
        simp only [Act.put, List.setIfInBounds_toArray, List.set_cons_zero, List.set_cons_succ]
        refine Flow.step ?_ ?_ ?_
        rotate_left
        · intro V K hS hK
          go_simp
          exact hK _ hS
        simp only [Act.put, List.setIfInBounds_toArray, List.set_cons_zero, List.set_cons_succ]
        refine Flow.step ?_ ?_ ?_
        rotate_left
        · intro V K hS hK
          obtain ⟨ea, eb⟩ := (KF.out V (hS)).1.1.1.2.2
          go_simp
          exact hK _ hS
        simp only [Act.put, List.setIfInBounds_toArray, List.set_cons_zero, List.set_cons_succ]
        refine Flow.step ?_ ?_ ?_
        rotate_left
        · intro V K hS hK
          go_simp
          exact hK _ hS
        simp only [Act.put, List.setIfInBounds_toArray, List.set_cons_zero, List.set_cons_succ]
        refine Flow.step ?_ ?_ ?_
        rotate_left
        · intro V K hS hK
          obtain ⟨ea, eb⟩ := (KF.out V (hS)).1.1.1.2.2
          go_simp
          exact hK _ hS
        simp only [Act.put, List.setIfInBounds_toArray, List.set_cons_zero, List.set_cons_succ]
        refine Flow.step ?_ ?_ ?_
        rotate_left
        · intro V K hS hK
          go_simp
          go_at_call 32
          refine (isreloc_any q1 q4 q2 q5 q3 q6 J (a) (b) V (KF.out V (hS)).1.2 Ka.out Kb.out).mono ?_
          rintro e w9 ⟨rfl, h9⟩
          exact hK _ (below_next hS h9)
        simp only [Act.put, List.setIfInBounds_toArray, List.set_cons_zero, List.set_cons_succ]
        refine Flow.step ?_ ?_ ?_
        rotate_left
        · intro V K hS hK
          obtain ⟨jv, jw, jx, jy, jz⟩ := (KF.out V (hS)).1.1.2
          go_simp
          exact hK _ hS
        simp only [Act.put, List.setIfInBounds_toArray, List.set_cons_zero, List.set_cons_succ]
        refine Flow.step ?_ ?_ ?_
        rotate_left
        · intro V K hS hK
          go_simp
          exact hK _ hS
        simp only [Act.put, List.setIfInBounds_toArray, List.set_cons_zero, List.set_cons_succ]
        refine Flow.step ?_ ?_ ?_
        rotate_left
        · intro V K hS hK
          obtain ⟨ea, eb⟩ := (KF.out V (hS)).1.1.1.2.2
          go_simp
          exact hK _ hS
        simp only [Act.put, List.setIfInBounds_toArray, List.set_cons_zero, List.set_cons_succ]
        refine Flow.step ?_ ?_ ?_
        rotate_left
        · intro V K hS hK
          go_simp
          exact hK _ hS
        simp only [Act.put, List.setIfInBounds_toArray, List.set_cons_zero, List.set_cons_succ]
        refine Flow.step ?_ ?_ ?_
        rotate_left
        · intro V K hS hK
          obtain ⟨ea, eb⟩ := (KF.out V (hS)).1.1.1.2.2
          go_simp
          exact hK _ hS
        simp only [Act.put, List.setIfInBounds_toArray, List.set_cons_zero, List.set_cons_succ]
        refine Flow.step ?_ ?_ ?_
        rotate_left
        · intro V K hS hK
          go_simp
          go_at_call 33
          refine (risreloc_any q1 q4 q2 q5 q3 q6 J (a) (b) V (KF.out V (hS)).1.2 Ka.out Kb.out).mono ?_
          rintro e w9 ⟨rfl, h9⟩
          exact hK _ (below_next hS h9)
        simp only [Act.put, List.setIfInBounds_toArray, List.set_cons_zero, List.set_cons_succ]
        refine Flow.step ?_ ?_ ?_
        rotate_left
        · intro V K hS hK
          go_simp
          exact hK _ hS
        simp only [Act.put, List.setIfInBounds_toArray, List.set_cons_zero, List.set_cons_succ]
        refine Flow.step ?_ ?_ ?_
        rotate_left
        · intro V K hS hK
          go_simp
          exact hK _ hS
        simp only [Act.put, List.setIfInBounds_toArray, List.set_cons_zero, List.set_cons_succ]
        refine Flow.step ?_ ?_ ?_
        rotate_left
        · intro V K hS hK
          go_simp
          exact hK _ hS
        simp only [Act.put, List.setIfInBounds_toArray, List.set_cons_zero, List.set_cons_succ]
        refine Flow.step ?_ ?_ ?_
        rotate_left
        · intro V K hS hK
          go_simp
          exact hK _ hS
        simp only [Act.put, List.setIfInBounds_toArray, List.set_cons_zero, List.set_cons_succ]
        refine Flow.step ?_ ?_ ?_
        rotate_left
        · intro V K hS hK
          obtain ⟨jv, jw, jx, jy, jz⟩ := (KF.out V (hS)).1.1.2
          go_simp
          exact hK _ hS
        simp only [Act.put, List.setIfInBounds_toArray, List.set_cons_zero, List.set_cons_succ]
        refine Flow.step ?_ ?_ ?_
        rotate_left
        · intro V K hS hK
          go_simp
          exact hK _ hS
        simp only [Act.put, List.setIfInBounds_toArray, List.set_cons_zero, List.set_cons_succ]
        refine Flow.step ?_ ?_ ?_
        rotate_left
        · intro V K hS hK
          go_simp
          exact hK _ hS
        simp only [Act.put, List.setIfInBounds_toArray, List.set_cons_zero, List.set_cons_succ]
        refine Flow.step ?_ ?_ ?_
        rotate_left
        · intro V K hS hK
          go_simp
          exact hK _ hS
        simp only [Act.put, List.setIfInBounds_toArray, List.set_cons_zero, List.set_cons_succ]
        refine Flow.step ?_ ?_ ?_
        rotate_left
        · intro V K hS hK
          go_simp
          exact hK _ hS
        simp only [Act.put, List.setIfInBounds_toArray, List.set_cons_zero, List.set_cons_succ]
        refine Flow.step ?_ ?_ ?_
        rotate_left
        · intro V K hS hK
          go_simp
          exact hK _ hS
        simp only [Act.put, List.setIfInBounds_toArray, List.set_cons_zero, List.set_cons_succ]
        refine Flow.step ?_ ?_ ?_
        rotate_left
        · intro V K hS hK
          go_simp
          exact hK _ hS
        simp only [Act.put, List.setIfInBounds_toArray, List.set_cons_zero, List.set_cons_succ]
        refine Flow.step ?_ ?_ ?_
        rotate_left
        · intro V K hS hK
          go_simp
          exact hK _ hS
        simp only [Act.put, List.setIfInBounds_toArray, List.set_cons_zero, List.set_cons_succ]
        refine Flow.step ?_ ?_ ?_
        rotate_left
        · intro V K hS hK
          go_simp
          exact hK _ hS
        simp only [Act.put, List.setIfInBounds_toArray, List.set_cons_zero, List.set_cons_succ]
        refine Flow.step ?_ ?_ ?_
        rotate_left
        · intro V K hS hK
          go_simp
          exact hK _ hS
        simp only [Act.put, List.setIfInBounds_toArray, List.set_cons_zero, List.set_cons_succ]
        refine Flow.step ?_ ?_ ?_
        rotate_left
        · intro V K hS hK
          go_simp
          exact hK _ hS
        simp only [Act.put, List.setIfInBounds_toArray, List.set_cons_zero, List.set_cons_succ]
        refine Flow.step ?_ ?_ ?_
        rotate_left
        · intro V K hS hK
          go_simp
          exact hK _ hS
        simp only [Act.put, List.setIfInBounds_toArray, List.set_cons_zero, List.set_cons_succ]
        refine Flow.step ?_ ?_ ?_
        rotate_left
        · intro V K hS hK
          go_simp
          exact hK _ hS
        simp only [Act.put, List.setIfInBounds_toArray, List.set_cons_zero, List.set_cons_succ]
        refine Flow.step ?_ ?_ ?_
        rotate_left
        · intro V K hS hK
          go_simp
          exact hK _ hS
        simp only [Act.put, List.setIfInBounds_toArray, List.set_cons_zero, List.set_cons_succ]
        refine Flow.step ?_ ?_ ?_
        rotate_left
        · intro V K hS hK
          go_simp
          exact hK _ hS
        simp only [Act.put, List.setIfInBounds_toArray, List.set_cons_zero, List.set_cons_succ]
        refine Flow.step ?_ ?_ ?_
        rotate_left
        · intro V K hS hK
          go_simp
          exact hK _ hS
        simp only [Act.put, List.setIfInBounds_toArray, List.set_cons_zero, List.set_cons_succ]
        refine Flow.step ?_ ?_ ?_
        rotate_left
        · intro V K hS hK
          go_simp
          exact hK _ hS
        simp only [Act.put, List.setIfInBounds_toArray, List.set_cons_zero, List.set_cons_succ]
        refine Flow.step ?_ ?_ ?_
        rotate_left
        · intro V K hS hK
          go_simp
          exact hK _ hS
        simp only [Act.put, List.setIfInBounds_toArray, List.set_cons_zero, List.set_cons_succ]
        refine Flow.step ?_ ?_ ?_
        rotate_left
        · intro V K hS hK
          go_simp
          exact hK _ hS
        simp only [Act.put, List.setIfInBounds_toArray, List.set_cons_zero, List.set_cons_succ]
        refine Flow.step ?_ ?_ ?_
        rotate_left
        · intro V K hS hK
          go_simp
          exact hK _ hS
        simp only [Act.put, List.setIfInBounds_toArray, List.set_cons_zero, List.set_cons_succ]
        refine Flow.done ?_
        intro V hS
        have KG := Lib.hid (KF.out _ (hS)).1.1.1.1
        clear hS
        go_wp2_with fail
        go_ret
        exact ⟨rfl, KG.out⟩
      · have hl0 : ((J.relocs.length : Int) == 0) = false := by have t : J.relocs.length = rs.length + 1 := (by rw [hR]; rfl); simp [t]; omega
        have hl1 : (0 : Int) < (J.relocs.length : Int) := by have t : J.relocs.length = rs.length + 1 := (by rw [hR]; rfl); omega
        have hl2 : 0 < J.relocs.length := by rw [hR]; simp
        obtain ⟨BR, hq3, hBR, c0, c1, hrok⟩ := (KF.out _ (Below.refl _ _)).1.2.relocs 0 r (by rw [hR]; rfl)
        have KO := Lib.hid hrok
        have KT : Hid (isRel J.relocs r.bank r.off = true) := Lib.hid (isRel_hit J.relocs r.bank r.off 0 r (by rw [hR]; rfl) rfl rfl)
        subst hq3
        have KR : Hid (∀ V, Below W3.heap.size W3 V → V.cell? ⟨BR, 0, none⟩ = some (.int .i64 r.bank) ∧ V.cell? ⟨BR, 1, none⟩ = some (.int .u16 r.off)) := fun V hb => ⟨(hb.cell (p := ⟨BR, 0, none⟩) hBR).trans c0, (hb.cell (p := ⟨BR, 1, none⟩) hBR).trans c1⟩
        have hwo : IntKind.i64.wrap r.off = r.off := IntWalk.i64_in _ (by have := KO.out.2.1; have := KO.out.2.2; omega)
        clear hR c0 c1 hrok
        refine wp_region_flow (S := fun V => Below W3.heap.size W3 V) (by kernel_rfl) (by kernel_rfl) (Below.drew (HBw.out)) ?_
        refine Flow.step ?_ ?_ ?_
        rotate_left
        · intro V K hS hK
          go_simp
          exact hK _ hS
        simp only [Act.put, List.setIfInBounds_toArray, List.set_cons_zero, List.set_cons_succ]
        refine Flow.step ?_ ?_ ?_
        rotate_left
        · intro V K hS hK
          go_simp
          exact hK _ hS
        simp only [Act.put, List.setIfInBounds_toArray, List.set_cons_zero, List.set_cons_succ]
        refine Flow.step ?_ ?_ ?_
        rotate_left
        · intro V K hS hK
          obtain ⟨jv, jw, jx, jy, jz⟩ := (KF.out V (hS)).1.1.2
          go_simp
          exact hK _ hS
        simp only [Act.put, List.setIfInBounds_toArray, List.set_cons_zero, List.set_cons_succ]
        refine Flow.step ?_ ?_ ?_
        rotate_left
        · intro V K hS hK
          go_simp
          exact hK _ hS
        simp only [Act.put, List.setIfInBounds_toArray, List.set_cons_zero, List.set_cons_succ]
        refine Flow.step ?_ ?_ ?_
        rotate_left
        · intro V K hS hK
          go_simp
          exact hK _ hS
        simp only [Act.put, List.setIfInBounds_toArray, List.set_cons_zero, List.set_cons_succ]
        refine Flow.step ?_ ?_ ?_
        rotate_left
        · intro V K hS hK
          go_simp
          go_at_call 32
          refine (isreloc_any q1 q4 q2 q5 (some ⟨BR, 0, none⟩) q6 J (a % 5 - 1) (b % 3000) V (KF.out V (hS)).1.2 Kc.out Kd.out).mono ?_
          rintro e w9 ⟨rfl, h9⟩
          exact hK _ (below_next hS h9)
        simp only [Act.put, List.setIfInBounds_toArray, List.set_cons_zero, List.set_cons_succ]
        refine Flow.step ?_ ?_ ?_
        rotate_left
        · intro V K hS hK
          obtain ⟨jv, jw, jx, jy, jz⟩ := (KF.out V (hS)).1.1.2
          go_simp
          exact hK _ hS
        simp only [Act.put, List.setIfInBounds_toArray, List.set_cons_zero, List.set_cons_succ]
        refine Flow.step ?_ ?_ ?_
        rotate_left
        · intro V K hS hK
          go_simp
          exact hK _ hS
        simp only [Act.put, List.setIfInBounds_toArray, List.set_cons_zero, List.set_cons_succ]
        refine Flow.step ?_ ?_ ?_
        rotate_left
        · intro V K hS hK
          go_simp
          exact hK _ hS
        simp only [Act.put, List.setIfInBounds_toArray, List.set_cons_zero, List.set_cons_succ]
        refine Flow.step ?_ ?_ ?_
        rotate_left
        · intro V K hS hK
          go_simp
          go_at_call 33
          refine (risreloc_any q1 q4 q2 q5 (some ⟨BR, 0, none⟩) q6 J (a % 5 - 1) (b % 3000) V (KF.out V (hS)).1.2 Kc.out Kd.out).mono ?_
          rintro e w9 ⟨rfl, h9⟩
          exact hK _ (below_next hS h9)
        simp only [Act.put, List.setIfInBounds_toArray, List.set_cons_zero, List.set_cons_succ]
        refine Flow.step ?_ ?_ ?_
        rotate_left
        · intro V K hS hK
          go_simp
          exact hK _ hS
        simp only [Act.put, List.setIfInBounds_toArray, List.set_cons_zero, List.set_cons_succ]
        refine Flow.step ?_ ?_ ?_
        rotate_left
        · intro V K hS hK
          go_simp
          exact hK _ hS
        simp only [Act.put, List.setIfInBounds_toArray, List.set_cons_zero, List.set_cons_succ]
        refine Flow.step ?_ ?_ ?_
        rotate_left
        · intro V K hS hK
          go_simp
          exact hK _ hS
        simp only [Act.put, List.setIfInBounds_toArray, List.set_cons_zero, List.set_cons_succ]
        refine Flow.step ?_ ?_ ?_
        rotate_left
        · intro V K hS hK
          obtain ⟨jv, jw, jx, jy, jz⟩ := (KF.out V (hS)).1.1.2
          go_simp
          exact hK _ hS
        simp only [Act.put, List.setIfInBounds_toArray, List.set_cons_zero, List.set_cons_succ]
        refine Flow.step ?_ ?_ ?_
        rotate_left
        · intro V K hS hK
          go_simp
          exact hK _ hS
        simp only [Act.put, List.setIfInBounds_toArray, List.set_cons_zero, List.set_cons_succ]
        refine Flow.step ?_ ?_ ?_
        rotate_left
        · intro V K hS hK
          obtain ⟨ea, eb⟩ := (KF.out V (hS)).1.1.1.2.2
          go_simp
          exact hK _ hS
        simp only [Act.put, List.setIfInBounds_toArray, List.set_cons_zero, List.set_cons_succ]
        refine Flow.step ?_ ?_ ?_
        rotate_left
        · intro V K hS hK
          go_simp
          exact hK _ hS
        simp only [Act.put, List.setIfInBounds_toArray, List.set_cons_zero, List.set_cons_succ]
        refine Flow.step ?_ ?_ ?_
        rotate_left
        · intro V K hS hK
          obtain ⟨ea, eb⟩ := (KF.out V (hS)).1.1.1.2.2
          go_simp
          exact hK _ hS
        simp only [Act.put, List.setIfInBounds_toArray, List.set_cons_zero, List.set_cons_succ]
        refine Flow.step ?_ ?_ ?_
        rotate_left
        · intro V K hS hK
          go_simp
          go_at_call 32
          refine (isreloc_any q1 q4 q2 q5 (some ⟨BR, 0, none⟩) q6 J (a) (b) V (KF.out V (hS)).1.2 Ka.out Kb.out).mono ?_
          rintro e w9 ⟨rfl, h9⟩
          exact hK _ (below_next hS h9)
        simp only [Act.put, List.setIfInBounds_toArray, List.set_cons_zero, List.set_cons_succ]
        refine Flow.step ?_ ?_ ?_
        rotate_left
        · intro V K hS hK
          obtain ⟨jv, jw, jx, jy, jz⟩ := (KF.out V (hS)).1.1.2
          go_simp
          exact hK _ hS
        simp only [Act.put, List.setIfInBounds_toArray, List.set_cons_zero, List.set_cons_succ]
        refine Flow.step ?_ ?_ ?_
        rotate_left
        · intro V K hS hK
          go_simp
          exact hK _ hS
        simp only [Act.put, List.setIfInBounds_toArray, List.set_cons_zero, List.set_cons_succ]
        refine Flow.step ?_ ?_ ?_
        rotate_left
        · intro V K hS hK
          obtain ⟨ea, eb⟩ := (KF.out V (hS)).1.1.1.2.2
          go_simp
          exact hK _ hS
        simp only [Act.put, List.setIfInBounds_toArray, List.set_cons_zero, List.set_cons_succ]
        refine Flow.step ?_ ?_ ?_
        rotate_left
        · intro V K hS hK
          go_simp
          exact hK _ hS
        simp only [Act.put, List.setIfInBounds_toArray, List.set_cons_zero, List.set_cons_succ]
        refine Flow.step ?_ ?_ ?_
        rotate_left
        · intro V K hS hK
          obtain ⟨ea, eb⟩ := (KF.out V (hS)).1.1.1.2.2
          go_simp
          exact hK _ hS
        simp only [Act.put, List.setIfInBounds_toArray, List.set_cons_zero, List.set_cons_succ]
        refine Flow.step ?_ ?_ ?_
        rotate_left
        · intro V K hS hK
          go_simp
          go_at_call 33
          refine (risreloc_any q1 q4 q2 q5 (some ⟨BR, 0, none⟩) q6 J (a) (b) V (KF.out V (hS)).1.2 Ka.out Kb.out).mono ?_
          rintro e w9 ⟨rfl, h9⟩
          exact hK _ (below_next hS h9)
        simp only [Act.put, List.setIfInBounds_toArray, List.set_cons_zero, List.set_cons_succ]
        refine Flow.step ?_ ?_ ?_
        rotate_left
        · intro V K hS hK
          go_simp
          exact hK _ hS
        simp only [Act.put, List.setIfInBounds_toArray, List.set_cons_zero, List.set_cons_succ]
        refine Flow.step ?_ ?_ ?_
        rotate_left
        · intro V K hS hK
          go_simp
          exact hK _ hS
        simp only [Act.put, List.setIfInBounds_toArray, List.set_cons_zero, List.set_cons_succ]
        refine Flow.step ?_ ?_ ?_
        rotate_left
        · intro V K hS hK
          go_simp
          exact hK _ hS
        simp only [Act.put, List.setIfInBounds_toArray, List.set_cons_zero, List.set_cons_succ]
        refine Flow.step ?_ ?_ ?_
        rotate_left
        · intro V K hS hK
          go_simp
          exact hK _ hS
        simp only [Act.put, List.setIfInBounds_toArray, List.set_cons_zero, List.set_cons_succ]
        refine Flow.step ?_ ?_ ?_
        rotate_left
        · intro V K hS hK
          obtain ⟨jv, jw, jx, jy, jz⟩ := (KF.out V (hS)).1.1.2
          go_simp
          exact hK _ hS
        simp only [Act.put, List.setIfInBounds_toArray, List.set_cons_zero, List.set_cons_succ]
        refine Flow.step ?_ ?_ ?_
        rotate_left
        · intro V K hS hK
          go_simp
          exact hK _ hS
        simp only [Act.put, List.setIfInBounds_toArray, List.set_cons_zero, List.set_cons_succ]
        refine Flow.step ?_ ?_ ?_
        rotate_left
        · intro V K hS hK
          go_simp
          exact hK _ hS
        simp only [Act.put, List.setIfInBounds_toArray, List.set_cons_zero, List.set_cons_succ]
        refine Flow.step ?_ ?_ ?_
        rotate_left
        · intro V K hS hK
          go_simp
          exact hK _ hS
        simp only [Act.put, List.setIfInBounds_toArray, List.set_cons_zero, List.set_cons_succ]
        refine Flow.step ?_ ?_ ?_
        rotate_left
        · intro V K hS hK
          obtain ⟨jv, jw, jx, jy, jz⟩ := (KF.out V (hS)).1.1.2
          go_simp
          exact hK _ hS
        simp only [Act.put, List.setIfInBounds_toArray, List.set_cons_zero, List.set_cons_succ]
        refine Flow.step ?_ ?_ ?_
        rotate_left
        · intro V K hS hK
          go_simp
          exact hK _ hS
        simp only [Act.put, List.setIfInBounds_toArray, List.set_cons_zero, List.set_cons_succ]
        refine Flow.step ?_ ?_ ?_
        rotate_left
        · intro V K hS hK
          obtain ⟨jv, jw, jx, jy, jz⟩ := (KF.out V (hS)).1.1.2
          go_simp
          exact hK _ hS
        simp only [Act.put, List.setIfInBounds_toArray, List.set_cons_zero, List.set_cons_succ]
        refine Flow.step ?_ ?_ ?_
        rotate_left
        · intro V K hS hK
          go_simp
          exact hK _ hS
        simp only [Act.put, List.setIfInBounds_toArray, List.set_cons_zero, List.set_cons_succ]
        refine Flow.step ?_ ?_ ?_
        rotate_left
        · intro V K hS hK
          go_simp
          exact hK _ hS
        simp only [Act.put, List.setIfInBounds_toArray, List.set_cons_zero, List.set_cons_succ]
        refine Flow.step ?_ ?_ ?_
        rotate_left
        · intro V K hS hK
          obtain ⟨n0, n1⟩ := KR.out V hS
          go_simp
          exact hK _ hS
        simp only [Act.put, List.setIfInBounds_toArray, List.set_cons_zero, List.set_cons_succ]
        refine Flow.step ?_ ?_ ?_
        rotate_left
        · intro V K hS hK
          go_simp
          exact hK _ hS
        simp only [Act.put, List.setIfInBounds_toArray, List.set_cons_zero, List.set_cons_succ]
        refine Flow.step ?_ ?_ ?_
        rotate_left
        · intro V K hS hK
          obtain ⟨jv, jw, jx, jy, jz⟩ := (KF.out V (hS)).1.1.2
          go_simp
          exact hK _ hS
        simp only [Act.put, List.setIfInBounds_toArray, List.set_cons_zero, List.set_cons_succ]
        refine Flow.step ?_ ?_ ?_
        rotate_left
        · intro V K hS hK
          go_simp
          exact hK _ hS
        simp only [Act.put, List.setIfInBounds_toArray, List.set_cons_zero, List.set_cons_succ]
        refine Flow.step ?_ ?_ ?_
        rotate_left
        · intro V K hS hK
          go_simp
          exact hK _ hS
        simp only [Act.put, List.setIfInBounds_toArray, List.set_cons_zero, List.set_cons_succ]
        refine Flow.step ?_ ?_ ?_
        rotate_left
        · intro V K hS hK
          obtain ⟨n0, n1⟩ := KR.out V hS
          go_simp
          exact hK _ hS
        simp only [Act.put, List.setIfInBounds_toArray, List.set_cons_zero, List.set_cons_succ]
        refine Flow.step ?_ ?_ ?_
        rotate_left
        · intro V K hS hK
          go_simp
          exact hK _ hS
        simp only [Act.put, List.setIfInBounds_toArray, List.set_cons_zero, List.set_cons_succ]
        refine Flow.step ?_ ?_ ?_
        rotate_left
        · intro V K hS hK
          go_simp
          go_at_call 32
          refine (isreloc_hit q1 q4 q2 q5 (some ⟨BR, 0, none⟩) q6 J (r.bank) (r.off) V (KF.out V (hS)).1.2 KO.out.1 ⟨by have := KO.out.2.1; omega, by have := KO.out.2.2; omega⟩ KT.out).mono ?_
          rintro e w9 ⟨rfl, h9⟩
          exact hK _ (below_next hS h9)
        simp only [Act.put, List.setIfInBounds_toArray, List.set_cons_zero, List.set_cons_succ]
        refine Flow.step ?_ ?_ ?_
        rotate_left
        · intro V K hS hK
          go_simp
          exact hK _ hS
        simp only [Act.put, List.setIfInBounds_toArray, List.set_cons_zero, List.set_cons_succ]
        refine Flow.step ?_ ?_ ?_
        rotate_left
        · intro V K hS hK
          go_simp
          exact hK _ hS
        simp only [Act.put, List.setIfInBounds_toArray, List.set_cons_zero, List.set_cons_succ]
        refine Flow.step ?_ ?_ ?_
        rotate_left
        · intro V K hS hK
          go_simp
          exact hK _ hS
        simp only [Act.put, List.setIfInBounds_toArray, List.set_cons_zero, List.set_cons_succ]
        refine Flow.done ?_
        intro V hS
        have KG := Lib.hid (KF.out _ (hS)).1.1.1.1
        clear hS
        go_wp2_with fail
        go_ret
        exact ⟨rfl, KG.out⟩
end Go.Proofs.Ytgdiaaoekkdibaa
