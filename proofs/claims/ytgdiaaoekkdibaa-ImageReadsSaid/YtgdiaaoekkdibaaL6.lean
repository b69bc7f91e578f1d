/- ImageReads: the walk of the law. -/
import Derived.Test.YtgdiaaoekkdibaaT8
import Derived.Test.YtgdiaaoekkdibaaD2
import Derived.Test.YtgdiaaoekkdibaaE2
import Derived.Test.YtgdiaaoekkdibaaN2
import Derived.Test.YtgdiaaoekkdibaaJ1
namespace Go.Proofs.Ytgdiaaoekkdibaa
set_option linter.unusedVariables false
set_option linter.unusedSimpArgs false
open Go.RowKit
def DrawnV (v : Value) (V : World) : Prop := ∃ (I : Img) (p1 : Option Addr) (p4 : Nat) (p2 : Option Addr) (p5 : Nat) (p3 : Option Addr) (p6 : Nat), v = imgV p1 p4 p2 p5 p3 p6 I ∧ ImgAt V p1 p2 p3 I ∧ checkI I = 0 ∧ I.banks.length ≤ 3 ∧ I.data.length ≤ 28 ∧ I.relocs.length ≤ 78
def TurnedV (v : Value) (V : World) : Prop := ∃ (I : Img) (p1 : Option Addr) (p4 : Nat) (p2 : Option Addr) (p5 : Nat) (p3 : Option Addr) (p6 : Nat), v = imgV p1 p4 p2 p5 p3 p6 I ∧ ImgAt V p1 p2 p3 I ∧ (∀ s ∈ I.banks, s.size ≤ 4096) ∧ I.banks.length ≤ 3 ∧ I.data.length ≤ 28 ∧ I.relocs.length ≤ 79
def FileV (v : Value) (V : World) : Prop := ∃ F : ByteArray, v = .string F ∧ F.size ≤ 20002
theorem flat_max {α : Type} (f : α → List UInt8) (c : Nat) (l : List α) (h : ∀ x ∈ l, (f x).length ≤ c) : (l.flatMap f).length ≤ c * l.length := by
  induction l with
  | nil => simp
  | cons x l ih =>
    have := ih (fun y hy => h y (List.mem_cons_of_mem _ hy))
    have := h x (List.mem_cons_self ..)
    rw [List.flatMap_cons, List.length_append, List.length_cons, Nat.mul_succ]
    omega
theorem body_bound (J : Img) (hF : ∀ s ∈ J.banks, s.size ≤ 4096) (m1 : J.banks.length ≤ 3) (m2 : J.data.length ≤ 28) (m3 : J.relocs.length ≤ 79) : (bodyL J).length ≤ 20000 ∧ (fileI J).size ≤ 20002 := by
  have hb := flat_max strB 4096 J.banks (fun s hs => hF s hs)
  have h1 : (bodyL J).length ≤ 20000 := by
    unfold bodyL
    rw [List.length_append, List.length_append, List.length_append, headL_len, flat_len objB 5 _ (fun x _ => rfl), flat_len relB 3 _ (fun x _ => rfl)]
    omega
  refine ⟨h1, ?_⟩
  rw [show (fileI J).size = (fileL J).length from rfl]
  unfold fileL
  rw [List.length_append, putL_len]
  simp; omega
set_option maxRecDepth 8000 in
set_option maxHeartbeats 8000000 in
theorem imageReads_walk (ps : Option Addr) (pc : Nat) (S : List Int) (x y z : Int) (t : ByteArray) (w : World) (hlS : S.length ≤ 9223372036854775807) (hSS : IntsAt w ps S) (x0 : -9223372036854775808 ≤ x) (x1 : x ≤ 9223372036854775807) (y0 : -9223372036854775808 ≤ y) (y1 : y ≤ 9223372036854775807) (z0 : -9223372036854775808 ≤ z) (z1 : z ≤ 9223372036854775807) (hzt : t.size ≤ 9223372036854775807) :
    Calls Try.prog 6 #[.slice ps S.length pc, .agg #[.int .i64 x, .int .i64 y, .int .i64 z], .string t] w fun e w' => e = .returned (.bool true) ∧ Below w.heap.size w w' := by
  have KSS := Lib.hid hSS
  have KLS := Lib.hid hlS
  have Kx : Hid (OkI64 x) := ⟨x0, x1⟩
  have Ky : Hid (OkI64 y) := ⟨y0, y1⟩
  have Kz : Hid (OkI64 z) := ⟨z0, z1⟩
  clear hSS hlS x0 x1 y0 y1 z0 z1
  have KF := Lib.hid (fun V (hb : Below (w.alloc (Obj.cells #[.int .i64 x, .int .i64 y, .int .i64 z] 23)).heap.size (w.alloc (Obj.cells #[.int .i64 x, .int .i64 y, .int .i64 z] 23)) V) => And.intro (below_next (below1 w (Obj.cells #[.int .i64 x, .int .i64 y, .int .i64 z] 23)) hb) (one_box_3 w x y z V hb))
  go_enter Try.func6, Try.ntmps6
  go_wp2_with fail
  have hw0 : (w.alloc (Obj.cells #[.int .i64 x, .int .i64 y, .int .i64 z] 23)).heap.size = w.heap.size + 1 := by simp
  generalize (w.alloc (Obj.cells #[.int .i64 x, .int .i64 y, .int .i64 z] 23)) = W0 at *
  refine (sanity_any _).mono ?_
  rintro e w1 ⟨rfl, h1⟩
  replace KF := Lib.hid (fun V (hb : Below w1.heap.size w1 V) => KF.out V (below_next (h1) hb))
  clear h1
  have hz1 : t.size ≤ 9223372036854775807 := hzt
  clear hzt
  go_wp2_with fail
  refine' wp_region_flowR [[], [(15, 0)], [], [(16, 1), (17, 2)], [(18, 3)], [(15, 0), (16, 1), (17, 2), (18, 3), (19, 4)]] (relL [eqV _, DrawnV, eqV _, TurnedV, FileV, fun v V => True]) (by kernel_rfl) (by kernel_rfl) ?_
  rotate_left 2
  refine FlowR.step ?_ ?_
  · intro V hV
    simp only [Dep, Act.put, List.setIfInBounds_toArray, List.set_cons_zero, List.set_cons_succ]
    intro K hK
    go_simp
    refine hK _ _ ?_ (Below.refl _ _)
    simp only [relL, List.getElem?_cons_zero, List.getElem?_cons_succ, eqV]
    exact rfl
  refine FlowR.step ?_ ?_
  · intro V hV
    simp only [Dep, Act.put, List.setIfInBounds_toArray, List.set_cons_zero, List.set_cons_succ]
    rintro x15 ⟨V15, rfl, hb15⟩
    intro K hK
    go_simp
    go_at_call 16
    refine (drawn_any ps pc S V KLS.out (KSS.out.kept (KF.out V (hV)).1)).mono ?_
    rintro e w9 ⟨I, p1, p4, p2, p5, p3, p6, rfl, hI, hc, l1, l2, l3, h9⟩
    exact hK _ _ (⟨I, p1, p4, p2, p5, p3, p6, rfl, hI, hc, l1, l2, l3⟩) h9
  refine FlowR.step ?_ ?_
  · intro V hV
    simp only [Dep, Act.put, List.setIfInBounds_toArray, List.set_cons_zero, List.set_cons_succ]
    intro K hK
    obtain ⟨ex, ey, ez⟩ := (KF.out V (hV)).2
    go_simp
    refine hK _ _ ?_ (Below.refl _ _)
    simp only [relL, List.getElem?_cons_zero, List.getElem?_cons_succ, eqV]
    exact rfl
  refine FlowR.step ?_ ?_
  · intro V hV
    simp only [Dep, Act.put, List.setIfInBounds_toArray, List.set_cons_zero, List.set_cons_succ]
    rintro x16 ⟨V16, ⟨I, p1, p4, p2, p5, p3, p6, rfl, hI, hc, l1, l2, l3⟩, hb16⟩
    rintro x17 ⟨V17, rfl, hb17⟩
    intro K hK
    go_simp
    go_at_call 17
    refine (turned_any p1 p4 p2 p5 p3 p6 I x y z V (hI.kept hb16) (full_size hc) (by omega) (by omega) (by omega) Kx.out Ky.out Kz.out (TurnedPost I V) (Lib.hid fun _ _ h => h)).mono ?_
    rintro e w9 ⟨J, q1, q4, q2, q5, q3, q6, rfl, hJ, hF, m1, m2, m3, h9⟩
    exact hK _ _ (⟨J, q1, q4, q2, q5, q3, q6, rfl, hJ, hF, by omega, by omega, by omega⟩) h9
  refine FlowR.step ?_ ?_
  · intro V hV
    simp only [Dep, Act.put, List.setIfInBounds_toArray, List.set_cons_zero, List.set_cons_succ]
    rintro x18 ⟨V18, ⟨J, q1, q4, q2, q5, q3, q6, rfl, hJ, hF, m1, m2, m3⟩, hb18⟩
    intro K hK
    go_simp
    go_at_call 23
    refine (rfile_any q1 q4 q2 q5 q3 q6 J V (hJ.kept hb18) (Nat.le_trans (body_bound J hF m1 m2 m3).1 (by decide))).mono ?_
    rintro e w9 ⟨rfl, h9⟩
    exact hK _ _ (⟨_, rfl, (body_bound J hF m1 m2 m3).2⟩) h9
  refine FlowR.last ?_
  intro V hV
  simp only [Dep, Act.put, List.setIfInBounds_toArray, List.set_cons_zero, List.set_cons_succ]
  rintro x15 ⟨V15, rfl, hb15⟩
  rintro x16 ⟨V16, ⟨I, p1, p4, p2, p5, p3, p6, rfl, hI, hc, l1, l2, l3⟩, hb16⟩
  rintro x17 ⟨V17, rfl, hb17⟩
  rintro x18 ⟨V18, ⟨J, q1, q4, q2, q5, q3, q6, rfl, hJ, hF, m1, m2, m3⟩, hb18⟩
  rintro x19 ⟨V19, ⟨F, rfl, hFs⟩, hb19⟩
  intro K hK
  go_simp
  refine hK _ _ ?_
  clear hK K hI hc l1 l2 l3 hJ hF m1 m2 m3 hb15 V15 hb16 V16 hb17 V17 hb18 V18 hb19 V19
  generalize V = VA at *
  replace KF := Lib.hid (fun V (hb : Below VA.heap.size VA V) => KF.out V (below_next (hV) hb))
  clear hV
  have hx0 : 0 ≤ min (t.size : Int) 40 := by omega
  have hx1 : min (t.size : Int) 40 ≤ t.size := by omega
  have hsx : (t.extract 0 (min (t.size : Int) 40).toNat).size ≤ 40 := by rw [ByteArray.size_extract]; omega
  have HZ1 := Lib.hid hz1
  clear hz1
  go_wp2_with fail
  generalize t.extract 0 (min (t.size : Int) 40).toNat = X at *
  clear hx0 hx1
  refine (agrees_any F _ (by omega)).mono ?_
  rintro e w3 ⟨rfl, h3⟩
  replace KF := Lib.hid (fun V (hb : Below w3.heap.size w3 V) => KF.out V (below_next (h3) hb))
  clear h3
  have hc0 : ¬ 9223372036854775807 < F.size + X.size := by omega
  go_wp2_with fail
  clear hc0
  refine (agrees_any (F ++ X) _ (by rw [ByteArray.size_append]; omega)).mono ?_
  rintro e w4 ⟨rfl, h4⟩
  replace KF := Lib.hid (fun V (hb : Below w4.heap.size w4 V) => KF.out V (below_next (h4) hb))
  clear h4
  go_wp2_with fail
  refine (agrees_any X _ (by omega)).mono ?_
  rintro e w5 ⟨rfl, h5⟩
  replace KF := Lib.hid (fun V (hb : Below w5.heap.size w5 V) => KF.out V (below_next (h5) hb))
  clear h5
  have hc0 : ¬ 9223372036854775807 < 4 + X.size := by omega
  go_wp2_with fail
  have hvx : ((ByteArray.mk #[86, 69, 76, 77]) ++ X).size ≤ 4 + 40 := by rw [ByteArray.size_append]; exact Nat.add_le_add (Nat.le_refl 4) hsx
  generalize (ByteArray.mk #[86, 69, 76, 77]) ++ X = VX at *
  clear hc0
  refine (agrees_any VX _ (by omega)).mono ?_
  rintro e w6 ⟨rfl, h6⟩
  replace KF := Lib.hid (fun V (hb : Below w6.heap.size w6 V) => KF.out V (below_next (h6) hb))
  clear h6
  have KW := Lib.hid (KF.out _ (Below.refl _ _)).1
  go_wp2_with fail
  go_ret
  exact ⟨rfl, KW.out⟩
end Go.Proofs.Ytgdiaaoekkdibaa
