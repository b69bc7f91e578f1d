/- sanity of the Cpu laws. -/
import Derived.Test.YtieaicdihingkaaGreatK28
namespace Go.Proofs.YtieaicdihingkaaGreat
set_option linter.unusedVariables false
set_option linter.unusedSimpArgs false
open Go.RowKit
/-- The image of one page, as an environment. -/
def imgE (g : Nat) (B : ByteArray) : Env := { B := 0, base := 0, ramB := 0, pb := some ⟨g, 0, none⟩, cb := 1, banks := [B], entry := 0, vector := 0, pd := none, nd := 0, cd := 0, pr := none, nr := 0, cr := 0, pin := none, cin := 0, tin := [], pirq := none, cirq := 0, tirq := [] }
theorem imgE_in {w : World} {g : Nat} {B : ByteArray} (hc : w.cell? ⟨g, 0, none⟩ = some (.string B)) (hg : g < w.heap.size) (hs : B.size ≤ maxLen) : ImgIn w (imgE g B) := by
 refine ⟨fun k s hk => ?_, (by decide : 1 ≤ maxLen), ok16_0, ok16_0⟩
 match k with
 | 0 =>
  have : s = B := by simpa [imgE] using hk.symm
  subst this
  exact ⟨g, rfl, hg, hc, hs⟩
 | k + 1 => simp [imgE] at hk
/-- A state that was returned, given to Run with an image and no tape. -/
theorem norm_in {w W0 : World} {E : Env} {m : Mach} {p p2 : Option Addr} {c c2 : Nat} (h : ImgIn w E) (hs : SnapIn W0 w m (.slice p m.st.length c) (.slice p2 m.out.length c2)) (ok : (normM m (ramS m.ram) m.st).Ok) (hsp : OkU16 m.sp) (hl : m.st.length ≤ 4096) : NormIn w (noTape E) m (ramS m.ram) m.st p p2 := by
 refine ⟨h.strs, fun k n hk => (by cases hk), fun k n hk => (by cases hk), own_sliceAt hs.st, own_src hs.out, ok, hsp, h.banks, h.entry, h.vector, Nat.zero_le _, Nat.zero_le _, fun x hx => (by cases hx), fun x hx => (by cases hx), ?_, by omega⟩
 show (ramL m.ram 8192).toArray.size ≤ _
 unfold ramL
 rw [List.size_toArray, List.length_map, List.length_range]
 decide
theorem ramS_byte (r : Nat → Int) (h : ∀ j, 0 ≤ r j ∧ r j < 256) (j : Nat) (hj : j < 8192) : byteI (ramS r) j = r j := by
 have h1 : (ramS r).data.toList[j]? = some (UInt8.ofNat (r j).toNat) := by
  show (ramL r 8192).toArray.toList[j]? = _
  unfold ramL
  rw [List.toList_toArray, List.getElem?_map, List.getElem?_range hj]
  rfl
 unfold byteI
 rw [h1]
 exact byte_one _ (h j).1 (h j).2
theorem ramS_size (r : Nat → Int) : (ramS r).size = 8192 := by
 show (ramL r 8192).toArray.size = _
 unfold ramL
 rw [List.size_toArray, List.length_map, List.length_range]
theorem norm_startM (entry : Int) : normM (startM entry) (ramS fun _ => 0) [0, 65535] = startM entry := by
 unfold normM startM
 have h : (fun j => byteI (ramS fun _ => 0) j) = fun _ => (0 : Int) := by
  funext j
  by_cases hj : j < 8192
  ·exact ramS_byte _ (fun _ => ⟨Int.le_refl 0, by decide⟩) j hj
  ·exact byteI_zero _ _ (by rw [ramS_size]; omega)
 rw [h]
 rfl
/-- What a Run gave, before it is stored. -/
def RanTo (W : World) (m : Mach) (S : ByteArray) (k i : Int) (v : Value) (V : World) : Prop := ∃ C : Array Value, v = .tuple #[.agg C, .agg #[.int .i64 k, .int .u16 i]] ∧ Snapped W m S (.agg C) V
def AggTo (W : World) (m : Mach) (S : ByteArray) (v : Value) (V : World) : Prop := ∃ C : Array Value, v = .agg C ∧ Snapped W m S (.agg C) V
def StartTo (W : World) (v : Value) (V : World) : Prop := ∃ C : Array Value, v = .agg C ∧ Snapped W (startM 0) (ramS fun _ => 0) (.agg C) V
theorem Snapped.next {W V V' : World} {m : Mach} {S : ByteArray} {v : Value} (h : Snapped W m S v V) (hb : Below V.heap.size V V') : Snapped W m S v V' := by
 obtain ⟨p, c, p2, c2, e, h1⟩ := h
 exact ⟨p, c, p2, c2, e, h1.next hb⟩
/-- Run from the start: the value of Start, and the image. -/
theorem Run_start {w W0 : World} {g : Nat} {B : ByteArray} {C : Array Value} {r : Mach × (Int × Int)} (h : ImgIn w (imgE g B)) (hs : Snapped W0 (startM 0) (ramS fun _ => 0) (.agg C) w) (hr : runM (noTape (imgE g B)) 100 (startM 0) = r) :
  Calls Tryz.prog 11 #[.agg #[.slice (some ⟨g, 0, none⟩) 1 1, .int .u16 0, .int .u16 0, .slice none 0 0, .slice none 0 0], .agg #[.slice none 0 0, .slice none 0 0], .agg C, .int .i64 100] w (RanPost w r) := by
 obtain ⟨p, c, p2, c2, e, hin⟩ := hs
 injection e with e
 subst e
 have hn : NormIn w (noTape (imgE g B)) (startM 0) (ramS fun _ => 0) [0, 65535] p p2 := norm_in (m := startM 0) h hin (by rw [show normM (startM 0) (ramS (startM 0).ram) (startM 0).st = startM 0 from norm_startM 0]; exact startM_ok ok16_0) ok16_2 (by decide)
 have hc : 2 ≤ c := by
  rcases hin.st.2 with ⟨_, h0⟩ | ⟨q, cap, cur, e1, _, _, hnc, _⟩
  ·exact absurd h0 (by decide)
  ·injection e1 with _ _ e3
   subst e3
   exact hnc
 have hx := Run_any hn c c2 hc 100 (by decide) (by decide)
 rw [norm_startM, hr] at hx
 exact hx
set_option maxRecDepth 20000 in
set_option maxHeartbeats 8000000 in
theorem sanity_any (w : World) : Calls Tryz.prog 4 #[] w (EvPost w true) := by
 have HW0 : Hid (Below w.heap.size w w) := Lib.hid (Below.refl _ _)
 go_enter Tryz.func4, Tryz.ntmps4
 go_upto_region 1 with (fail)
 go_wp2_with fail
 refine (image_any code1 _ (by decide)).mono ?_
 rintro e w1 ⟨g1, rfl, hc1, hg1, h1⟩
 have HIM1 := Lib.hid (imgE_in hc1 hg1 (by rw [pageB_size]; decide))
 have HBI1 := Lib.hid (below_alloc (below_next HW0.out h1) (Obj.cells #[.slice (some ⟨g1, 0, none⟩) 1 1, .int .u16 0, .int .u16 0, .slice none 0 0, .slice none 0 0] 29))
 have HBJ1 := Lib.hid (below_alloc h1 (Obj.cells #[.slice (some ⟨g1, 0, none⟩) 1 1, .int .u16 0, .int .u16 0, .slice none 0 0, .slice none 0 0] 29))
 have KI1 : Hid (∀ W, Below (w1.alloc (Obj.cells #[.slice (some ⟨g1, 0, none⟩) 1 1, .int .u16 0, .int .u16 0, .slice none 0 0, .slice none 0 0] 29)).heap.size (w1.alloc (Obj.cells #[.slice (some ⟨g1, 0, none⟩) 1 1, .int .u16 0, .int .u16 0, .slice none 0 0, .slice none 0 0] 29)) W → W.heap[w1.heap.size]? = some (.cells #[.slice (some ⟨g1, 0, none⟩) 1 1, .int .u16 0, .int .u16 0, .slice none 0 0, .slice none 0 0] 29 (0, 0)) ∧ ImgIn W (imgE g1 (pageB 0 code1))) := Lib.hid fun W hW => ⟨(hW.block _ (by simp)).trans (alloc_at w1 _), (HIM1.out.next (below1 w1 _)).next hW⟩
 clear hc1 hg1 h1
 go_upto_region 2 with (fail)
 generalize w1.alloc _ = V1 at *
 refine' wp_region_flowT [0, 1, 2, 3, 4, 5, 6, 8, 9] [10, 11] [[], [], [], [(16, 2)], [(14, 0), (15, 1), (17, 3)], [(18, 4)], [(13, 5)], [(13, 5)], [], [], [(2, 8), (19, 6)], [(3, 9), (20, 7)]] [(14, 0), (15, 1), (16, 2), (17, 3), (18, 4), (13, 5), (19, 6), (20, 7), (2, 8), (3, 9)] (relL [eqV _, eqV _, eqV _, StartTo V1, RanTo V1 m12 (ramS m12.ram) 1 0, RanTo V1 m12 (ramS m12.ram) 1 0, AggTo V1 m12 (ramS m12.ram), eqV _, PtrTo V1 #[.int .u16 0, .int .u16 0, .int .u16 0, .int .u16 0, .int .u16 0, .int .u16 0, .int .u16 0, .int .u16 0, .int .u16 0, .int .u16 0, .int .u16 0, .int .u16 0, .int .i64 0, .int .i64 0, .int .i64 0, .int .i64 0, .string ⟨#[]⟩, .slice none 0 0, .slice none 0 0] 36, PtrTo V1 #[.int .i64 0, .int .u16 0] 39, fun v V => True, fun v V => True]) [(10, _), (11, _)] (by kernel_rfl) (by kernel_rfl) rfl ?_ ?_
 rotate_left 4
 ·refine FlowT.mem (by decide) ?_ ?_
  ·intro VV hV
   simp only [Dep, lQ]
   intro K hK
   obtain ⟨kb, ki⟩ := KI1.out _ hV
   obtain q0 := Lib.cell_of_heap kb 0
   obtain q1 := Lib.cell_of_heap kb 1
   obtain q2 := Lib.cell_of_heap kb 2
   obtain q3 := Lib.cell_of_heap kb 3
   obtain q4 := Lib.cell_of_heap kb 4
   simp at q0 q1 q2 q3 q4
   go_simp
   refine hK _ _ ?_ (Below.refl _ _)
   simp only [lR]
   exact rfl
  refine FlowT.mem (by decide) ?_ ?_
  ·intro VV hV
   simp only [Dep, lQ]
   intro K hK
   go_simp
   refine hK _ _ ?_ (Below.refl _ _)
   simp only [lR]
   exact rfl
  refine FlowT.mem (by decide) ?_ ?_
  ·intro VV hV
   simp only [Dep, lQ]
   intro K hK
   obtain ⟨kb, ki⟩ := KI1.out _ hV
   obtain q0 := Lib.cell_of_heap kb 0
   obtain q1 := Lib.cell_of_heap kb 1
   obtain q2 := Lib.cell_of_heap kb 2
   obtain q3 := Lib.cell_of_heap kb 3
   obtain q4 := Lib.cell_of_heap kb 4
   simp at q0 q1 q2 q3 q4
   go_simp
   refine hK _ _ ?_ (Below.refl _ _)
   simp only [lR]
   exact rfl
  refine FlowT.mem (by decide) ?_ ?_
  ·intro VV hV
   simp only [Dep, lQ]
   rintro x16 ⟨V16, rfl, hb16⟩
   intro K hK
   go_simp
   go_at_call 12
   refine (Start_any (KI1.out _ hV).2).mono ?_
   rintro e w9 ⟨C9, rfl, hs9, h9⟩
   exact hK _ _ (⟨C9, rfl, hs9.low hV.size⟩) h9
  refine FlowT.mem (by decide) ?_ ?_
  ·intro VV hV
   simp only [Dep, lQ]
   rintro x14 ⟨V14, rfl, hb14⟩
   rintro x15 ⟨V15, rfl, hb15⟩
   rintro x17 ⟨V17, ⟨C1, rfl, hs1⟩, hb17⟩
   intro K hK
   go_simp
   go_at_call 11
   refine (Run_start (r := (m12, (1, 0))) (KI1.out _ hV).2 (hs1.next hb17) (run1 rfl)).mono ?_
   rintro e w9 ⟨C8, rfl, hs8, h9⟩
   exact hK _ _ (⟨C8, rfl, hs8.low hV.size⟩) h9
  refine FlowT.mem (by decide) ?_ ?_
  ·intro VV hV
   simp only [Dep, lQ]
   rintro x18 ⟨V18, ⟨C2, rfl, hs2⟩, hb18⟩
   intro K hK
   go_simp
   exact hK _ _ ⟨C2, rfl, hs2.next hb18⟩ (Below.refl _ _)
  refine FlowT.mem (by decide) ?_ ?_
  ·intro VV hV
   simp only [Dep, lQ]
   rintro x13 ⟨V13, ⟨C3, rfl, hs3⟩, hb13⟩
   intro K hK
   go_simp
   exact hK _ _ ⟨C3, rfl, hs3.next hb13⟩ (Below.refl _ _)
  refine FlowT.val (by decide) _ (fun _ _ => Iff.rfl) ?_ ?_
  ·simp only [DepP, lQ]
   rintro x13 ⟨V13, ⟨C3, rfl, hs3⟩⟩
   intro V K hK
   go_simp
   exact hK
  refine FlowT.mem (by decide) ?_ ?_
  ·intro VV hV
   simp only [Dep, lQ]
   intro K hK
   go_simp
   exact hK _ _ ⟨VV, rfl, rfl, hV⟩ (below1 _ _)
  refine FlowT.mem (by decide) ?_ ?_
  ·intro VV hV
   simp only [Dep, lQ]
   intro K hK
   go_simp
   exact hK _ _ ⟨VV, rfl, rfl, hV⟩ (below1 _ _)
  refine FlowT.store (by decide) rfl ?_
  refine FlowT.store (by decide) rfl ?_
  exact FlowT.nil
 ·intro VV hV
  simp only [Dep, lQ]
  rintro x14 ⟨V14, rfl, hb14⟩
  rintro x15 ⟨V15, rfl, hb15⟩
  rintro x16 ⟨V16, rfl, hb16⟩
  rintro x17 ⟨V17, ⟨C1, rfl, hs1⟩, hb17⟩
  rintro x18 ⟨V18, ⟨C2, rfl, hs2⟩, hb18⟩
  rintro x13 ⟨V13, ⟨C3, rfl, hs3⟩, hb13⟩
  rintro x19 ⟨V19, ⟨C4, rfl, hs4⟩, hb19⟩
  rintro x20 ⟨V20, rfl, hb20⟩
  rintro x2 ⟨V2, ⟨WA, rfl, rfl, hwA⟩, hb2⟩
  rintro x3 ⟨V3, ⟨WD, rfl, rfl, hwD⟩, hb3⟩
  obtain ⟨pa1, ca1, pb1, cb1, hC, hin⟩ := hs4.next hb19
  injection hC with hC
  subst hC
  have HSN := Lib.hid hin
  have HA0 := Lib.hid ((hb2.block WA.heap.size (by simp)).trans (alloc_at WA _))
  have HD0 := Lib.hid ((hb3.block WD.heap.size (by simp)).trans (alloc_at WD _))
  have HAL : Hid (V1.heap.size ≤ WA.heap.size) := Lib.hid hwA.size
  have HDL : Hid (V1.heap.size ≤ WD.heap.size) := Lib.hid hwD.size
  have HVV := Lib.hid hV
  clear hb2 hb3 hwA hwD hin hs4 hV
  generalize WA.heap.size = A1 at *
  generalize WD.heap.size = D1 at *
  have HNE : Hid (D1 ≠ A1) := Lib.hid (fun e => by
   have h1 := HA0.out
   rw [← e, HD0.out] at h1
   simp at h1)
  intro K1 hK1
  refine (if_pos (by rfl)).mpr ?_
  refine wp_store_row 36 _ _ rfl A1 rfl #[.int .u16 (m12.R 0), .int .u16 (m12.R 1), .int .u16 (m12.R 2), .int .u16 (m12.R 3), .int .u16 (m12.R 4), .int .u16 (m12.R 5), .int .u16 (m12.R 6), .int .u16 (m12.R 7), .int .u16 m12.pc, .int .u16 m12.sp, .int .u16 m12.fp, .int .u16 m12.f, .int .i64 m12.bank, .int .i64 m12.steps, .int .i64 m12.inputs, .int .i64 m12.polls, .string (ramS m12.ram), .slice pa1 m12.st.length ca1, .slice pb1 m12.out.length cb1] rfl HA0.out info43 rfl (by simp [Value.oneCell']) ?_
  refine hK1 undef _ ?_
  clear hK1 K1
  simp only [Act.put]
  have HA6 := Lib.hid (setRow_heap _ _ _ #[.int .u16 (m12.R 0), .int .u16 (m12.R 1), .int .u16 (m12.R 2), .int .u16 (m12.R 3), .int .u16 (m12.R 4), .int .u16 (m12.R 5), .int .u16 (m12.R 6), .int .u16 (m12.R 7), .int .u16 m12.pc, .int .u16 m12.sp, .int .u16 m12.fp, .int .u16 m12.f, .int .i64 m12.bank, .int .i64 m12.steps, .int .i64 m12.inputs, .int .i64 m12.polls, .string (ramS m12.ram), .slice pa1 m12.st.length ca1, .slice pb1 m12.out.length cb1] _ _ HA0.out)
  have HD6 := Lib.hid ((setRow_other VV A1 D1 #[.int .u16 (m12.R 0), .int .u16 (m12.R 1), .int .u16 (m12.R 2), .int .u16 (m12.R 3), .int .u16 (m12.R 4), .int .u16 (m12.R 5), .int .u16 (m12.R 6), .int .u16 (m12.R 7), .int .u16 m12.pc, .int .u16 m12.sp, .int .u16 m12.fp, .int .u16 m12.f, .int .i64 m12.bank, .int .i64 m12.steps, .int .i64 m12.inputs, .int .i64 m12.polls, .string (ramS m12.ram), .slice pa1 m12.st.length ca1, .slice pb1 m12.out.length cb1] HNE.out).trans HD0.out)
  have HS6 := Lib.hid (snap_row2 (C := #[.int .u16 (m12.R 0), .int .u16 (m12.R 1), .int .u16 (m12.R 2), .int .u16 (m12.R 3), .int .u16 (m12.R 4), .int .u16 (m12.R 5), .int .u16 (m12.R 6), .int .u16 (m12.R 7), .int .u16 m12.pc, .int .u16 m12.sp, .int .u16 m12.fp, .int .u16 m12.f, .int .i64 m12.bank, .int .i64 m12.steps, .int .i64 m12.inputs, .int .i64 m12.polls, .string (ramS m12.ram), .slice pa1 m12.st.length ca1, .slice pb1 m12.out.length cb1]) (by decide) HA0.out HSN.out)
  have HB6 := Lib.hid (setRow_below (C := #[.int .u16 (m12.R 0), .int .u16 (m12.R 1), .int .u16 (m12.R 2), .int .u16 (m12.R 3), .int .u16 (m12.R 4), .int .u16 (m12.R 5), .int .u16 (m12.R 6), .int .u16 (m12.R 7), .int .u16 m12.pc, .int .u16 m12.sp, .int .u16 m12.fp, .int .u16 m12.f, .int .i64 m12.bank, .int .i64 m12.steps, .int .i64 m12.inputs, .int .i64 m12.polls, .string (ramS m12.ram), .slice pa1 m12.st.length ca1, .slice pb1 m12.out.length cb1]) HVV.out HAL.out)
  generalize World.setRow _ _ _ = W6 at *
  intro K1 hK1
  refine (if_pos (by rfl)).mpr ?_
  refine wp_store_row 39 _ _ rfl D1 rfl #[.int .i64 1, .int .u16 0] rfl HD6.out info46 rfl (by simp [Value.oneCell']) ?_
  refine hK1 undef _ ?_
  clear hK1 K1
  simp only [Act.put]
  have HA7 := Lib.hid ((setRow_other W6 D1 A1 #[.int .i64 1, .int .u16 0] (fun e => HNE.out e.symm)).trans HA6.out)
  have HD7 := Lib.hid (setRow_heap _ _ _ #[.int .i64 1, .int .u16 0] _ _ HD6.out)
  have HS7 := Lib.hid (snap_row2 (C := #[.int .i64 1, .int .u16 0]) (by decide) HD6.out HS6.out)
  have HB7 := Lib.hid (setRow_below (C := #[.int .i64 1, .int .u16 0]) HB6.out HDL.out)
  generalize World.setRow _ _ _ = X1 at *
  have HF1 : Hid (∀ W, Below X1.heap.size X1 W → W.heap[A1]? = some (.cells #[.int .u16 (m12.R 0), .int .u16 (m12.R 1), .int .u16 (m12.R 2), .int .u16 (m12.R 3), .int .u16 (m12.R 4), .int .u16 (m12.R 5), .int .u16 (m12.R 6), .int .u16 (m12.R 7), .int .u16 m12.pc, .int .u16 m12.sp, .int .u16 m12.fp, .int .u16 m12.f, .int .i64 m12.bank, .int .i64 m12.steps, .int .i64 m12.inputs, .int .i64 m12.polls, .string (ramS m12.ram), .slice pa1 m12.st.length ca1, .slice pb1 m12.out.length cb1] 36 (0, 0)) ∧ W.heap[D1]? = some (.cells #[.int .i64 1, .int .u16 0] 39 (0, 0)) ∧ SnapIn V1 W m12 (.slice pa1 m12.st.length ca1) (.slice pb1 m12.out.length cb1)) := Lib.hid fun W hW => ⟨(hW.block _ (Array.getElem?_eq_some_iff.1 HA7.out).1).trans HA7.out, (hW.block _ (Array.getElem?_eq_some_iff.1 HD7.out).1).trans HD7.out, HS7.out.next hW⟩
  have HW1 := Lib.hid (below_next HBI1.out HB7.out)
  have HX1 := Lib.hid (below_next HBJ1.out HB7.out)
  clear HA0 HD0 HAL HDL HVV HNE HA6 HD6 HS6 HB6 HA7 HD7 HS7 HB7 HSN
  unfold TailS
  go_upto_region 3 with (fail)
  go_wp2_with fail
  refine (image_any code2 _ (by decide)).mono ?_
  rintro e w2 ⟨g2, rfl, hc2, hg2, h2⟩
  have HIM2 := Lib.hid (imgE_in hc2 hg2 (by rw [pageB_size]; decide))
  have HBI2 := Lib.hid (below_alloc (below_next HW1.out h2) (Obj.cells #[.slice (some ⟨g2, 0, none⟩) 1 1, .int .u16 0, .int .u16 0, .slice none 0 0, .slice none 0 0] 29))
  have HBJ2 := Lib.hid (below_alloc h2 (Obj.cells #[.slice (some ⟨g2, 0, none⟩) 1 1, .int .u16 0, .int .u16 0, .slice none 0 0, .slice none 0 0] 29))
  have KI2 : Hid (∀ W, Below (w2.alloc (Obj.cells #[.slice (some ⟨g2, 0, none⟩) 1 1, .int .u16 0, .int .u16 0, .slice none 0 0, .slice none 0 0] 29)).heap.size (w2.alloc (Obj.cells #[.slice (some ⟨g2, 0, none⟩) 1 1, .int .u16 0, .int .u16 0, .slice none 0 0, .slice none 0 0] 29)) W → W.heap[w2.heap.size]? = some (.cells #[.slice (some ⟨g2, 0, none⟩) 1 1, .int .u16 0, .int .u16 0, .slice none 0 0, .slice none 0 0] 29 (0, 0)) ∧ ImgIn W (imgE g2 (pageB 0 code2))) := Lib.hid fun W hW => ⟨(hW.block _ (by simp)).trans (alloc_at w2 _), (HIM2.out.next (below1 w2 _)).next hW⟩
  clear hc2 hg2 h2
  go_upto_region 4 with (fail)
  generalize w2.alloc _ = V2 at *
  refine' wp_region_flowT [0, 1, 2, 3, 4, 5, 6, 8, 9] [10, 11] [[], [], [], [(25, 2)], [(23, 0), (24, 1), (26, 3)], [(27, 4)], [(22, 5)], [(22, 5)], [], [], [(5, 8), (28, 6)], [(6, 9), (29, 7)]] [(23, 0), (24, 1), (25, 2), (26, 3), (27, 4), (22, 5), (28, 6), (29, 7), (5, 8), (6, 9)] (relL [eqV _, eqV _, eqV _, StartTo V2, RanTo V2 m22 (ramS m22.ram) 6 0, RanTo V2 m22 (ramS m22.ram) 6 0, AggTo V2 m22 (ramS m22.ram), eqV _, PtrTo V2 #[.int .u16 0, .int .u16 0, .int .u16 0, .int .u16 0, .int .u16 0, .int .u16 0, .int .u16 0, .int .u16 0, .int .u16 0, .int .u16 0, .int .u16 0, .int .u16 0, .int .i64 0, .int .i64 0, .int .i64 0, .int .i64 0, .string ⟨#[]⟩, .slice none 0 0, .slice none 0 0] 36, PtrTo V2 #[.int .i64 0, .int .u16 0] 39, fun v V => True, fun v V => True]) [(10, _), (11, _)] (by kernel_rfl) (by kernel_rfl) rfl ?_ ?_
  rotate_left 4
  ·refine FlowT.mem (by decide) ?_ ?_
   ·intro VV hV
    simp only [Dep, lQ]
    intro K hK
    obtain ⟨kb, ki⟩ := KI2.out _ hV
    obtain q0 := Lib.cell_of_heap kb 0
    obtain q1 := Lib.cell_of_heap kb 1
    obtain q2 := Lib.cell_of_heap kb 2
    obtain q3 := Lib.cell_of_heap kb 3
    obtain q4 := Lib.cell_of_heap kb 4
    simp at q0 q1 q2 q3 q4
    go_simp
    refine hK _ _ ?_ (Below.refl _ _)
    simp only [lR]
    exact rfl
   refine FlowT.mem (by decide) ?_ ?_
   ·intro VV hV
    simp only [Dep, lQ]
    intro K hK
    go_simp
    refine hK _ _ ?_ (Below.refl _ _)
    simp only [lR]
    exact rfl
   refine FlowT.mem (by decide) ?_ ?_
   ·intro VV hV
    simp only [Dep, lQ]
    intro K hK
    obtain ⟨kb, ki⟩ := KI2.out _ hV
    obtain q0 := Lib.cell_of_heap kb 0
    obtain q1 := Lib.cell_of_heap kb 1
    obtain q2 := Lib.cell_of_heap kb 2
    obtain q3 := Lib.cell_of_heap kb 3
    obtain q4 := Lib.cell_of_heap kb 4
    simp at q0 q1 q2 q3 q4
    go_simp
    refine hK _ _ ?_ (Below.refl _ _)
    simp only [lR]
    exact rfl
   refine FlowT.mem (by decide) ?_ ?_
   ·intro VV hV
    simp only [Dep, lQ]
    rintro x25 ⟨V25, rfl, hb25⟩
    intro K hK
    go_simp
    go_at_call 12
    refine (Start_any (KI2.out _ hV).2).mono ?_
    rintro e w9 ⟨C9, rfl, hs9, h9⟩
    exact hK _ _ (⟨C9, rfl, hs9.low hV.size⟩) h9
   refine FlowT.mem (by decide) ?_ ?_
   ·intro VV hV
    simp only [Dep, lQ]
    rintro x23 ⟨V23, rfl, hb23⟩
    rintro x24 ⟨V24, rfl, hb24⟩
    rintro x26 ⟨V26, ⟨C1, rfl, hs1⟩, hb26⟩
    intro K hK
    go_simp
    go_at_call 11
    refine (Run_start (r := (m22, (6, 0))) (KI2.out _ hV).2 (hs1.next hb26) (run2 rfl)).mono ?_
    rintro e w9 ⟨C8, rfl, hs8, h9⟩
    exact hK _ _ (⟨C8, rfl, hs8.low hV.size⟩) h9
   refine FlowT.mem (by decide) ?_ ?_
   ·intro VV hV
    simp only [Dep, lQ]
    rintro x27 ⟨V27, ⟨C2, rfl, hs2⟩, hb27⟩
    intro K hK
    go_simp
    exact hK _ _ ⟨C2, rfl, hs2.next hb27⟩ (Below.refl _ _)
   refine FlowT.mem (by decide) ?_ ?_
   ·intro VV hV
    simp only [Dep, lQ]
    rintro x22 ⟨V22, ⟨C3, rfl, hs3⟩, hb22⟩
    intro K hK
    go_simp
    exact hK _ _ ⟨C3, rfl, hs3.next hb22⟩ (Below.refl _ _)
   refine FlowT.val (by decide) _ (fun _ _ => Iff.rfl) ?_ ?_
   ·simp only [DepP, lQ]
    rintro x22 ⟨V22, ⟨C3, rfl, hs3⟩⟩
    intro V K hK
    go_simp
    exact hK
   refine FlowT.mem (by decide) ?_ ?_
   ·intro VV hV
    simp only [Dep, lQ]
    intro K hK
    go_simp
    exact hK _ _ ⟨VV, rfl, rfl, hV⟩ (below1 _ _)
   refine FlowT.mem (by decide) ?_ ?_
   ·intro VV hV
    simp only [Dep, lQ]
    intro K hK
    go_simp
    exact hK _ _ ⟨VV, rfl, rfl, hV⟩ (below1 _ _)
   refine FlowT.store (by decide) rfl ?_
   refine FlowT.store (by decide) rfl ?_
   exact FlowT.nil
  ·intro VV hV
   simp only [Dep, lQ]
   rintro x23 ⟨V23, rfl, hb23⟩
   rintro x24 ⟨V24, rfl, hb24⟩
   rintro x25 ⟨V25, rfl, hb25⟩
   rintro x26 ⟨V26, ⟨C1, rfl, hs1⟩, hb26⟩
   rintro x27 ⟨V27, ⟨C2, rfl, hs2⟩, hb27⟩
   rintro x22 ⟨V22, ⟨C3, rfl, hs3⟩, hb22⟩
   rintro x28 ⟨V28, ⟨C4, rfl, hs4⟩, hb28⟩
   rintro x29 ⟨V29, rfl, hb29⟩
   rintro x5 ⟨V5, ⟨WA, rfl, rfl, hwA⟩, hb5⟩
   rintro x6 ⟨V6, ⟨WD, rfl, rfl, hwD⟩, hb6⟩
   obtain ⟨pa2, ca2, pb2, cb2, hC, hin⟩ := hs4.next hb28
   injection hC with hC
   subst hC
   have HSN := Lib.hid hin
   have HA0 := Lib.hid ((hb5.block WA.heap.size (by simp)).trans (alloc_at WA _))
   have HD0 := Lib.hid ((hb6.block WD.heap.size (by simp)).trans (alloc_at WD _))
   have HAL : Hid (V2.heap.size ≤ WA.heap.size) := Lib.hid hwA.size
   have HDL : Hid (V2.heap.size ≤ WD.heap.size) := Lib.hid hwD.size
   have HVV := Lib.hid hV
   clear hb5 hb6 hwA hwD hin hs4 hV
   generalize WA.heap.size = A2 at *
   generalize WD.heap.size = D2 at *
   have HNE : Hid (D2 ≠ A2) := Lib.hid (fun e => by
    have h1 := HA0.out
    rw [← e, HD0.out] at h1
    simp at h1)
   intro K1 hK1
   refine (if_pos (by rfl)).mpr ?_
   refine wp_store_row 36 _ _ rfl A2 rfl #[.int .u16 (m22.R 0), .int .u16 (m22.R 1), .int .u16 (m22.R 2), .int .u16 (m22.R 3), .int .u16 (m22.R 4), .int .u16 (m22.R 5), .int .u16 (m22.R 6), .int .u16 (m22.R 7), .int .u16 m22.pc, .int .u16 m22.sp, .int .u16 m22.fp, .int .u16 m22.f, .int .i64 m22.bank, .int .i64 m22.steps, .int .i64 m22.inputs, .int .i64 m22.polls, .string (ramS m22.ram), .slice pa2 m22.st.length ca2, .slice pb2 m22.out.length cb2] rfl HA0.out info43 rfl (by simp [Value.oneCell']) ?_
   refine hK1 undef _ ?_
   clear hK1 K1
   simp only [Act.put]
   have HA6 := Lib.hid (setRow_heap _ _ _ #[.int .u16 (m22.R 0), .int .u16 (m22.R 1), .int .u16 (m22.R 2), .int .u16 (m22.R 3), .int .u16 (m22.R 4), .int .u16 (m22.R 5), .int .u16 (m22.R 6), .int .u16 (m22.R 7), .int .u16 m22.pc, .int .u16 m22.sp, .int .u16 m22.fp, .int .u16 m22.f, .int .i64 m22.bank, .int .i64 m22.steps, .int .i64 m22.inputs, .int .i64 m22.polls, .string (ramS m22.ram), .slice pa2 m22.st.length ca2, .slice pb2 m22.out.length cb2] _ _ HA0.out)
   have HD6 := Lib.hid ((setRow_other VV A2 D2 #[.int .u16 (m22.R 0), .int .u16 (m22.R 1), .int .u16 (m22.R 2), .int .u16 (m22.R 3), .int .u16 (m22.R 4), .int .u16 (m22.R 5), .int .u16 (m22.R 6), .int .u16 (m22.R 7), .int .u16 m22.pc, .int .u16 m22.sp, .int .u16 m22.fp, .int .u16 m22.f, .int .i64 m22.bank, .int .i64 m22.steps, .int .i64 m22.inputs, .int .i64 m22.polls, .string (ramS m22.ram), .slice pa2 m22.st.length ca2, .slice pb2 m22.out.length cb2] HNE.out).trans HD0.out)
   have HS6 := Lib.hid (snap_row2 (C := #[.int .u16 (m22.R 0), .int .u16 (m22.R 1), .int .u16 (m22.R 2), .int .u16 (m22.R 3), .int .u16 (m22.R 4), .int .u16 (m22.R 5), .int .u16 (m22.R 6), .int .u16 (m22.R 7), .int .u16 m22.pc, .int .u16 m22.sp, .int .u16 m22.fp, .int .u16 m22.f, .int .i64 m22.bank, .int .i64 m22.steps, .int .i64 m22.inputs, .int .i64 m22.polls, .string (ramS m22.ram), .slice pa2 m22.st.length ca2, .slice pb2 m22.out.length cb2]) (by decide) HA0.out HSN.out)
   have HB6 := Lib.hid (setRow_below (C := #[.int .u16 (m22.R 0), .int .u16 (m22.R 1), .int .u16 (m22.R 2), .int .u16 (m22.R 3), .int .u16 (m22.R 4), .int .u16 (m22.R 5), .int .u16 (m22.R 6), .int .u16 (m22.R 7), .int .u16 m22.pc, .int .u16 m22.sp, .int .u16 m22.fp, .int .u16 m22.f, .int .i64 m22.bank, .int .i64 m22.steps, .int .i64 m22.inputs, .int .i64 m22.polls, .string (ramS m22.ram), .slice pa2 m22.st.length ca2, .slice pb2 m22.out.length cb2]) HVV.out HAL.out)
   generalize World.setRow _ _ _ = W6 at *
   intro K1 hK1
   refine (if_pos (by rfl)).mpr ?_
   refine wp_store_row 39 _ _ rfl D2 rfl #[.int .i64 6, .int .u16 0] rfl HD6.out info46 rfl (by simp [Value.oneCell']) ?_
   refine hK1 undef _ ?_
   clear hK1 K1
   simp only [Act.put]
   have HA7 := Lib.hid ((setRow_other W6 D2 A2 #[.int .i64 6, .int .u16 0] (fun e => HNE.out e.symm)).trans HA6.out)
   have HD7 := Lib.hid (setRow_heap _ _ _ #[.int .i64 6, .int .u16 0] _ _ HD6.out)
   have HS7 := Lib.hid (snap_row2 (C := #[.int .i64 6, .int .u16 0]) (by decide) HD6.out HS6.out)
   have HB7 := Lib.hid (setRow_below (C := #[.int .i64 6, .int .u16 0]) HB6.out HDL.out)
   generalize World.setRow _ _ _ = X2 at *
   have HF2 : Hid (∀ W, Below X2.heap.size X2 W → W.heap[A2]? = some (.cells #[.int .u16 (m22.R 0), .int .u16 (m22.R 1), .int .u16 (m22.R 2), .int .u16 (m22.R 3), .int .u16 (m22.R 4), .int .u16 (m22.R 5), .int .u16 (m22.R 6), .int .u16 (m22.R 7), .int .u16 m22.pc, .int .u16 m22.sp, .int .u16 m22.fp, .int .u16 m22.f, .int .i64 m22.bank, .int .i64 m22.steps, .int .i64 m22.inputs, .int .i64 m22.polls, .string (ramS m22.ram), .slice pa2 m22.st.length ca2, .slice pb2 m22.out.length cb2] 36 (0, 0)) ∧ W.heap[D2]? = some (.cells #[.int .i64 6, .int .u16 0] 39 (0, 0)) ∧ SnapIn V2 W m22 (.slice pa2 m22.st.length ca2) (.slice pb2 m22.out.length cb2)) := Lib.hid fun W hW => ⟨(hW.block _ (Array.getElem?_eq_some_iff.1 HA7.out).1).trans HA7.out, (hW.block _ (Array.getElem?_eq_some_iff.1 HD7.out).1).trans HD7.out, HS7.out.next hW⟩
   have HW2 := Lib.hid (below_next HBI2.out HB7.out)
   have HX2 := Lib.hid (below_next HBJ2.out HB7.out)
   clear HA0 HD0 HAL HDL HVV HNE HA6 HD6 HS6 HB6 HA7 HD7 HS7 HB7 HSN
   unfold TailS
   go_upto_region 5 with (fail)
   go_wp2_with fail
   refine (image_any code3 _ (by decide)).mono ?_
   rintro e w3 ⟨g3, rfl, hc3, hg3, h3⟩
   have HIM3 := Lib.hid (imgE_in hc3 hg3 (by rw [pageB_size]; decide))
   have HBI3 := Lib.hid (below_alloc (below_next HW2.out h3) (Obj.cells #[.slice (some ⟨g3, 0, none⟩) 1 1, .int .u16 0, .int .u16 0, .slice none 0 0, .slice none 0 0] 29))
   have HBJ3 := Lib.hid (below_alloc h3 (Obj.cells #[.slice (some ⟨g3, 0, none⟩) 1 1, .int .u16 0, .int .u16 0, .slice none 0 0, .slice none 0 0] 29))
   have KI3 : Hid (∀ W, Below (w3.alloc (Obj.cells #[.slice (some ⟨g3, 0, none⟩) 1 1, .int .u16 0, .int .u16 0, .slice none 0 0, .slice none 0 0] 29)).heap.size (w3.alloc (Obj.cells #[.slice (some ⟨g3, 0, none⟩) 1 1, .int .u16 0, .int .u16 0, .slice none 0 0, .slice none 0 0] 29)) W → W.heap[w3.heap.size]? = some (.cells #[.slice (some ⟨g3, 0, none⟩) 1 1, .int .u16 0, .int .u16 0, .slice none 0 0, .slice none 0 0] 29 (0, 0)) ∧ ImgIn W (imgE g3 (pageB 0 code3))) := Lib.hid fun W hW => ⟨(hW.block _ (by simp)).trans (alloc_at w3 _), (HIM3.out.next (below1 w3 _)).next hW⟩
   clear hc3 hg3 h3
   go_upto_region 6 with (fail)
   generalize w3.alloc _ = V3 at *
   refine' wp_region_flowT [0, 1, 2, 3, 4, 5, 6, 8, 9] [10, 11] [[], [], [], [(34, 2)], [(32, 0), (33, 1), (35, 3)], [(36, 4)], [(31, 5)], [(31, 5)], [], [], [(8, 8), (37, 6)], [(9, 9), (38, 7)]] [(32, 0), (33, 1), (34, 2), (35, 3), (36, 4), (31, 5), (37, 6), (38, 7), (8, 8), (9, 9)] (relL [eqV _, eqV _, eqV _, StartTo V3, RanTo V3 m32 (ramS m32.ram) 5 0, RanTo V3 m32 (ramS m32.ram) 5 0, AggTo V3 m32 (ramS m32.ram), eqV _, PtrTo V3 #[.int .u16 0, .int .u16 0, .int .u16 0, .int .u16 0, .int .u16 0, .int .u16 0, .int .u16 0, .int .u16 0, .int .u16 0, .int .u16 0, .int .u16 0, .int .u16 0, .int .i64 0, .int .i64 0, .int .i64 0, .int .i64 0, .string ⟨#[]⟩, .slice none 0 0, .slice none 0 0] 36, PtrTo V3 #[.int .i64 0, .int .u16 0] 39, fun v V => True, fun v V => True]) [(10, _), (11, _)] (by kernel_rfl) (by kernel_rfl) rfl ?_ ?_
   rotate_left 4
   ·refine FlowT.mem (by decide) ?_ ?_
    ·intro VV hV
     simp only [Dep, lQ]
     intro K hK
     obtain ⟨kb, ki⟩ := KI3.out _ hV
     obtain q0 := Lib.cell_of_heap kb 0
     obtain q1 := Lib.cell_of_heap kb 1
     obtain q2 := Lib.cell_of_heap kb 2
     obtain q3 := Lib.cell_of_heap kb 3
     obtain q4 := Lib.cell_of_heap kb 4
     simp at q0 q1 q2 q3 q4
     go_simp
     refine hK _ _ ?_ (Below.refl _ _)
     simp only [lR]
     exact rfl
    refine FlowT.mem (by decide) ?_ ?_
    ·intro VV hV
     simp only [Dep, lQ]
     intro K hK
     go_simp
     refine hK _ _ ?_ (Below.refl _ _)
     simp only [lR]
     exact rfl
    refine FlowT.mem (by decide) ?_ ?_
    ·intro VV hV
     simp only [Dep, lQ]
     intro K hK
     obtain ⟨kb, ki⟩ := KI3.out _ hV
     obtain q0 := Lib.cell_of_heap kb 0
     obtain q1 := Lib.cell_of_heap kb 1
     obtain q2 := Lib.cell_of_heap kb 2
     obtain q3 := Lib.cell_of_heap kb 3
     obtain q4 := Lib.cell_of_heap kb 4
     simp at q0 q1 q2 q3 q4
     go_simp
     refine hK _ _ ?_ (Below.refl _ _)
     simp only [lR]
     exact rfl
    refine FlowT.mem (by decide) ?_ ?_
    ·intro VV hV
     simp only [Dep, lQ]
     rintro x34 ⟨V34, rfl, hb34⟩
     intro K hK
     go_simp
     go_at_call 12
     refine (Start_any (KI3.out _ hV).2).mono ?_
     rintro e w9 ⟨C9, rfl, hs9, h9⟩
     exact hK _ _ (⟨C9, rfl, hs9.low hV.size⟩) h9
    refine FlowT.mem (by decide) ?_ ?_
    ·intro VV hV
     simp only [Dep, lQ]
     rintro x32 ⟨V32, rfl, hb32⟩
     rintro x33 ⟨V33, rfl, hb33⟩
     rintro x35 ⟨V35, ⟨C1, rfl, hs1⟩, hb35⟩
     intro K hK
     go_simp
     go_at_call 11
     refine (Run_start (r := (m32, (5, 0))) (KI3.out _ hV).2 (hs1.next hb35) (run3 rfl)).mono ?_
     rintro e w9 ⟨C8, rfl, hs8, h9⟩
     exact hK _ _ (⟨C8, rfl, hs8.low hV.size⟩) h9
    refine FlowT.mem (by decide) ?_ ?_
    ·intro VV hV
     simp only [Dep, lQ]
     rintro x36 ⟨V36, ⟨C2, rfl, hs2⟩, hb36⟩
     intro K hK
     go_simp
     exact hK _ _ ⟨C2, rfl, hs2.next hb36⟩ (Below.refl _ _)
    refine FlowT.mem (by decide) ?_ ?_
    ·intro VV hV
     simp only [Dep, lQ]
     rintro x31 ⟨V31, ⟨C3, rfl, hs3⟩, hb31⟩
     intro K hK
     go_simp
     exact hK _ _ ⟨C3, rfl, hs3.next hb31⟩ (Below.refl _ _)
    refine FlowT.val (by decide) _ (fun _ _ => Iff.rfl) ?_ ?_
    ·simp only [DepP, lQ]
     rintro x31 ⟨V31, ⟨C3, rfl, hs3⟩⟩
     intro V K hK
     go_simp
     exact hK
    refine FlowT.mem (by decide) ?_ ?_
    ·intro VV hV
     simp only [Dep, lQ]
     intro K hK
     go_simp
     exact hK _ _ ⟨VV, rfl, rfl, hV⟩ (below1 _ _)
    refine FlowT.mem (by decide) ?_ ?_
    ·intro VV hV
     simp only [Dep, lQ]
     intro K hK
     go_simp
     exact hK _ _ ⟨VV, rfl, rfl, hV⟩ (below1 _ _)
    refine FlowT.store (by decide) rfl ?_
    refine FlowT.store (by decide) rfl ?_
    exact FlowT.nil
   ·intro VV hV
    simp only [Dep, lQ]
    rintro x32 ⟨V32, rfl, hb32⟩
    rintro x33 ⟨V33, rfl, hb33⟩
    rintro x34 ⟨V34, rfl, hb34⟩
    rintro x35 ⟨V35, ⟨C1, rfl, hs1⟩, hb35⟩
    rintro x36 ⟨V36, ⟨C2, rfl, hs2⟩, hb36⟩
    rintro x31 ⟨V31, ⟨C3, rfl, hs3⟩, hb31⟩
    rintro x37 ⟨V37, ⟨C4, rfl, hs4⟩, hb37⟩
    rintro x38 ⟨V38, rfl, hb38⟩
    rintro x8 ⟨V8, ⟨WA, rfl, rfl, hwA⟩, hb8⟩
    rintro x9 ⟨V9, ⟨WD, rfl, rfl, hwD⟩, hb9⟩
    obtain ⟨pa3, ca3, pb3, cb3, hC, hin⟩ := hs4.next hb37
    injection hC with hC
    subst hC
    have HSN := Lib.hid hin
    have HA0 := Lib.hid ((hb8.block WA.heap.size (by simp)).trans (alloc_at WA _))
    have HD0 := Lib.hid ((hb9.block WD.heap.size (by simp)).trans (alloc_at WD _))
    have HAL : Hid (V3.heap.size ≤ WA.heap.size) := Lib.hid hwA.size
    have HDL : Hid (V3.heap.size ≤ WD.heap.size) := Lib.hid hwD.size
    have HVV := Lib.hid hV
    clear hb8 hb9 hwA hwD hin hs4 hV
    generalize WA.heap.size = A3 at *
    generalize WD.heap.size = D3 at *
    have HNE : Hid (D3 ≠ A3) := Lib.hid (fun e => by
     have h1 := HA0.out
     rw [← e, HD0.out] at h1
     simp at h1)
    intro K1 hK1
    refine (if_pos (by rfl)).mpr ?_
    refine wp_store_row 36 _ _ rfl A3 rfl #[.int .u16 (m32.R 0), .int .u16 (m32.R 1), .int .u16 (m32.R 2), .int .u16 (m32.R 3), .int .u16 (m32.R 4), .int .u16 (m32.R 5), .int .u16 (m32.R 6), .int .u16 (m32.R 7), .int .u16 m32.pc, .int .u16 m32.sp, .int .u16 m32.fp, .int .u16 m32.f, .int .i64 m32.bank, .int .i64 m32.steps, .int .i64 m32.inputs, .int .i64 m32.polls, .string (ramS m32.ram), .slice pa3 m32.st.length ca3, .slice pb3 m32.out.length cb3] rfl HA0.out info43 rfl (by simp [Value.oneCell']) ?_
    refine hK1 undef _ ?_
    clear hK1 K1
    simp only [Act.put]
    have HA6 := Lib.hid (setRow_heap _ _ _ #[.int .u16 (m32.R 0), .int .u16 (m32.R 1), .int .u16 (m32.R 2), .int .u16 (m32.R 3), .int .u16 (m32.R 4), .int .u16 (m32.R 5), .int .u16 (m32.R 6), .int .u16 (m32.R 7), .int .u16 m32.pc, .int .u16 m32.sp, .int .u16 m32.fp, .int .u16 m32.f, .int .i64 m32.bank, .int .i64 m32.steps, .int .i64 m32.inputs, .int .i64 m32.polls, .string (ramS m32.ram), .slice pa3 m32.st.length ca3, .slice pb3 m32.out.length cb3] _ _ HA0.out)
    have HD6 := Lib.hid ((setRow_other VV A3 D3 #[.int .u16 (m32.R 0), .int .u16 (m32.R 1), .int .u16 (m32.R 2), .int .u16 (m32.R 3), .int .u16 (m32.R 4), .int .u16 (m32.R 5), .int .u16 (m32.R 6), .int .u16 (m32.R 7), .int .u16 m32.pc, .int .u16 m32.sp, .int .u16 m32.fp, .int .u16 m32.f, .int .i64 m32.bank, .int .i64 m32.steps, .int .i64 m32.inputs, .int .i64 m32.polls, .string (ramS m32.ram), .slice pa3 m32.st.length ca3, .slice pb3 m32.out.length cb3] HNE.out).trans HD0.out)
    have HS6 := Lib.hid (snap_row2 (C := #[.int .u16 (m32.R 0), .int .u16 (m32.R 1), .int .u16 (m32.R 2), .int .u16 (m32.R 3), .int .u16 (m32.R 4), .int .u16 (m32.R 5), .int .u16 (m32.R 6), .int .u16 (m32.R 7), .int .u16 m32.pc, .int .u16 m32.sp, .int .u16 m32.fp, .int .u16 m32.f, .int .i64 m32.bank, .int .i64 m32.steps, .int .i64 m32.inputs, .int .i64 m32.polls, .string (ramS m32.ram), .slice pa3 m32.st.length ca3, .slice pb3 m32.out.length cb3]) (by decide) HA0.out HSN.out)
    have HB6 := Lib.hid (setRow_below (C := #[.int .u16 (m32.R 0), .int .u16 (m32.R 1), .int .u16 (m32.R 2), .int .u16 (m32.R 3), .int .u16 (m32.R 4), .int .u16 (m32.R 5), .int .u16 (m32.R 6), .int .u16 (m32.R 7), .int .u16 m32.pc, .int .u16 m32.sp, .int .u16 m32.fp, .int .u16 m32.f, .int .i64 m32.bank, .int .i64 m32.steps, .int .i64 m32.inputs, .int .i64 m32.polls, .string (ramS m32.ram), .slice pa3 m32.st.length ca3, .slice pb3 m32.out.length cb3]) HVV.out HAL.out)
    generalize World.setRow _ _ _ = W6 at *
    intro K1 hK1
    refine (if_pos (by rfl)).mpr ?_
    refine wp_store_row 39 _ _ rfl D3 rfl #[.int .i64 5, .int .u16 0] rfl HD6.out info46 rfl (by simp [Value.oneCell']) ?_
    refine hK1 undef _ ?_
    clear hK1 K1
    simp only [Act.put]
    have HA7 := Lib.hid ((setRow_other W6 D3 A3 #[.int .i64 5, .int .u16 0] (fun e => HNE.out e.symm)).trans HA6.out)
    have HD7 := Lib.hid (setRow_heap _ _ _ #[.int .i64 5, .int .u16 0] _ _ HD6.out)
    have HS7 := Lib.hid (snap_row2 (C := #[.int .i64 5, .int .u16 0]) (by decide) HD6.out HS6.out)
    have HB7 := Lib.hid (setRow_below (C := #[.int .i64 5, .int .u16 0]) HB6.out HDL.out)
    generalize World.setRow _ _ _ = X3 at *
    have HF3 : Hid (∀ W, Below X3.heap.size X3 W → W.heap[A3]? = some (.cells #[.int .u16 (m32.R 0), .int .u16 (m32.R 1), .int .u16 (m32.R 2), .int .u16 (m32.R 3), .int .u16 (m32.R 4), .int .u16 (m32.R 5), .int .u16 (m32.R 6), .int .u16 (m32.R 7), .int .u16 m32.pc, .int .u16 m32.sp, .int .u16 m32.fp, .int .u16 m32.f, .int .i64 m32.bank, .int .i64 m32.steps, .int .i64 m32.inputs, .int .i64 m32.polls, .string (ramS m32.ram), .slice pa3 m32.st.length ca3, .slice pb3 m32.out.length cb3] 36 (0, 0)) ∧ W.heap[D3]? = some (.cells #[.int .i64 5, .int .u16 0] 39 (0, 0)) ∧ SnapIn V3 W m32 (.slice pa3 m32.st.length ca3) (.slice pb3 m32.out.length cb3)) := Lib.hid fun W hW => ⟨(hW.block _ (Array.getElem?_eq_some_iff.1 HA7.out).1).trans HA7.out, (hW.block _ (Array.getElem?_eq_some_iff.1 HD7.out).1).trans HD7.out, HS7.out.next hW⟩
    have HW3 := Lib.hid (below_next HBI3.out HB7.out)
    have HX3 := Lib.hid (below_next HBJ3.out HB7.out)
    clear HA0 HD0 HAL HDL HVV HNE HA6 HD6 HS6 HB6 HA7 HD7 HS7 HB7 HSN
    unfold TailS
    have KF : Hid (∀ W, Below X3.heap.size X3 W → W.cell? ⟨A1, 1, none⟩ = some (.int .u16 5) ∧ W.cell? ⟨A1, 8, none⟩ = some (.int .u16 5) ∧ W.cell? ⟨A1, 13, none⟩ = some (.int .i64 2) ∧ W.cell? ⟨D1, 0, none⟩ = some (.int .i64 1) ∧ W.cell? ⟨D1, 1, none⟩ = some (.int .u16 0) ∧ W.cell? ⟨D2, 0, none⟩ = some (.int .i64 6) ∧ W.cell? ⟨D2, 1, none⟩ = some (.int .u16 0) ∧ W.cell? ⟨D3, 0, none⟩ = some (.int .i64 5) ∧ W.cell? ⟨D3, 1, none⟩ = some (.int .u16 0) ∧ W.cell? ⟨A2, 17, none⟩ = some (.slice pa2 0 ca2) ∧ W.cell? ⟨A2, 18, none⟩ = some (.slice pb2 1 cb2) ∧ W.cell? ⟨A3, 13, none⟩ = some (.int .i64 2) ∧ W.cell? ⟨A3, 3, none⟩ = some (.int .u16 0)) := Lib.hid fun W hW => by
     obtain ⟨ha1, hd1, _⟩ := HF1.out W (below_next (below_next HX2.out HX3.out) hW)
     obtain ⟨ha2, hd2, _⟩ := HF2.out W (below_next HX3.out hW)
     obtain ⟨ha3, hd3, _⟩ := HF3.out W hW
     exact ⟨Lib.cell_of_heap ha1 1, Lib.cell_of_heap ha1 8, Lib.cell_of_heap ha1 13, Lib.cell_of_heap hd1 0, Lib.cell_of_heap hd1 1, Lib.cell_of_heap hd2 0, Lib.cell_of_heap hd2 1, Lib.cell_of_heap hd3 0, Lib.cell_of_heap hd3 1, Lib.cell_of_heap ha2 17, Lib.cell_of_heap ha2 18, Lib.cell_of_heap ha3 13, Lib.cell_of_heap ha3 3⟩
    have HE1 : Hid (∀ W, (binOp .eql 39 (.agg #[.int .i64 1, .int .u16 0]) (.agg #[.int .i64 1, .int .u16 0])).run Tryz.prog W = .ok (.bool true) W) := Lib.hid fun W => by rw [eql46]; rfl
    have HE2 : Hid (∀ W, (binOp .eql 39 (.agg #[.int .i64 6, .int .u16 0]) (.agg #[.int .i64 6, .int .u16 0])).run Tryz.prog W = .ok (.bool true) W) := Lib.hid fun W => by rw [eql46]; rfl
    have HE3 : Hid (∀ W, (binOp .eql 39 (.agg #[.int .i64 5, .int .u16 0]) (.agg #[.int .i64 5, .int .u16 0])).run Tryz.prog W = .ok (.bool true) W) := Lib.hid fun W => by rw [eql46]; rfl
    have HS2 : Hid (∀ W, Below X3.heap.size X3 W → SrcAt W pb2 1 (outC [(7, 0)])) := Lib.hid fun W hW => own_src (HF2.out W (below_next HX3.out hW)).2.2.out
    have HWX := Lib.hid HW3.out
    have hg46 := guard46
    obtain ⟨f1, f2, f3, f4, f5, f6, f7, f8, f9, f10, f11, f12, f13⟩ := KF.out X3 (Below.refl _ _)
    have e1 := HE1.out
    have e2 := HE2.out
    clear HF1 HF2 HF3 HX1 HX2 HX3 HW1 HW2 HBI1 HBI2 HBI3 HBJ1 HBJ2 HBJ3 HIM1 HIM2 HIM3 KI1 KI2 KI3
    go_wp2_with fail
    clear f1 f2 f3 f4 f5 f6 f7 f8 f9 f10 f11 f12 f13 e1 e2
    have HB9 := Lib.hid (below1 X3 (Obj.cells #[.int .u16 7, .int .u16 0] 51))
    refine (events_any pb2 (some ⟨X3.heap.size, 0, none⟩) cb2 1 [(7, 0)] [(7, 0)] _ (HS2.out _ HB9.out) (.inr ⟨_, rfl, by simp, fun j u hu => ?_⟩) (by decide)).mono ?_
    ·rw [Lib.cell_of_heap (alloc_at X3 _) j]
     match j with
     | 0 => simpa [outC] using hu
     | 1 => simpa [outC] using hu
     | j + 2 => simp [outC] at hu
    rintro e w9 ⟨rfl, h9⟩
    rw [show evEq [(7, 0)] [(7, 0)] = true from by decide]
    have HBF := Lib.hid (below_next HB9.out h9)
    have HBW := Lib.hid (below_next HWX.out HBF.out)
    obtain ⟨f1, f2, f3, f4, f5, f6, f7, f8, f9, f10, f11, f12, f13⟩ := KF.out w9 HBF.out
    have e3 := HE3.out
    clear h9
    go_wp2_with fail
    exact bodyPost_ret (v := .bool true) (by simp [results, Tryz.results4, go_sem]) rfl ⟨rfl, HBW.out⟩
end Go.Proofs.YtieaicdihingkaaGreat
