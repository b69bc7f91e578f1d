/- The reference's Read of any string. -/
import Derived.Test.YtgdiaaoekkdibaaN0
namespace Go.Proofs.Ytgdiaaoekkdibaa
set_option linter.unusedVariables false
set_option linter.unusedSimpArgs false
open Go.RowKit
set_option maxRecDepth 100000 in
set_option maxHeartbeats 20000000 in
theorem rread_any (s : ByteArray) (w : World) (hs : s.size ≤ maxLen) (R : Ending → World → Prop) (HR : Hid (∀ e w', ReadPost s w e w' → R e w')) :
    Calls Try.prog 58 #[.string s] w R := by
  obtain ⟨i9, hi9, hz9, hs9, hb9⟩ := info_parts infoStr
  obtain ⟨i39, hi39, hz39, hs39, hb39⟩ := info_parts infoObj
  obtain ⟨i41, hi41, hz41, hs41, hb41⟩ := info_parts infoRel
  have HI9 := Lib.hid (And.intro hi9 (And.intro hz9 (And.intro hs9 hb9)))
  have HI39 := Lib.hid (And.intro hi39 (And.intro hz39 (And.intro hs39 hb39)))
  have HI41 := Lib.hid (And.intro hi41 (And.intro hz41 (And.intro hs41 hb41)))
  clear hi9 hz9 hs9 hb9 hi39 hz39 hs39 hb39 hi41 hz41 hs41 hb41
  have HS := Lib.hid hs
  clear hs
  have KR := Lib.hid (resAt_start w)
  have KB := Lib.hid (below1 w (Obj.cells #[Value.slice none 0 0, Value.int IntKind.u16 0, Value.int IntKind.u16 0, Value.slice none 0 0, Value.slice none 0 0] 30))
  obtain ⟨b4a, b4b⟩ := wordAt_bd s 4
  obtain ⟨b6a, b6b⟩ := wordAt_bd s 6
  obtain ⟨b8a, b8b⟩ := wordAt_bd s 8
  obtain ⟨b10a, b10b⟩ := wordAt_bd s 10
  obtain ⟨b12a, b12b⟩ := wordAt_bd s 12
  have x4 : IntKind.i64.wrap (wordAt s 4) = wordAt s 4 := IntWalk.i64_in _ (by omega)
  have x10 : IntKind.i64.wrap (wordAt s 10) = wordAt s 10 := IntWalk.i64_in _ (by omega)
  have x12 : IntKind.i64.wrap (wordAt s 12) = wordAt s 12 := IntWalk.i64_in _ (by omega)
  have KX := Lib.hid (And.intro x4 (And.intro x10 x12))
  clear x4 x10 x12
  go_enter Try.func58, Try.ntmps58
  by_cases hq : s.size < 4
  · have HQ := Lib.hid hq
    have i4 : (s.size : Int) < 4 := by omega
    clear hq
    have HE : Hid (readE s = ((s.size : Int), 10)) := Lib.hid (readE_bad s (headE_0 s HQ.out) (by decide))
    obtain ⟨⟨c0, c1, c2, c3, c4⟩, f0, f1, f2, f3, f4⟩ := KR.out.cells
    obtain ⟨s0, s1, s2, s3, s4⟩ := KR.out.selfs
    go_wp2_with fail
    exact bodyPost_ret (v := .tuple #[.agg #[.slice none 0 0, .int .u16 0, .int .u16 0, .slice none 0 0, .slice none 0 0], .int .i64 ((s.size : Int)), .int .i64 10]) (by simp [results, Try.results58, go_sem, c0, c1, c2, c3, c4]) rfl (HR.out _ _ (readPost_bad HE.out (by decide) KB.out))
  have n4 := hq
  clear hq
  have i4 : ¬ (s.size : Int) < 4 := by omega
  by_cases hq : isVelm s = false
  · have HQ := Lib.hid hq
    unfold isVelm at hq
    have HE : Hid (readE s = (0, 20)) := Lib.hid (readE_bad s (headE_1 s n4 HQ.out) (by decide))
    obtain ⟨⟨c0, c1, c2, c3, c4⟩, f0, f1, f2, f3, f4⟩ := KR.out.cells
    obtain ⟨s0, s1, s2, s3, s4⟩ := KR.out.selfs
    go_wp2_with fail
    exact bodyPost_ret (v := .tuple #[.agg #[.slice none 0 0, .int .u16 0, .int .u16 0, .slice none 0 0, .slice none 0 0], .int .i64 (0), .int .i64 20]) (by simp [results, Try.results58, go_sem, c0, c1, c2, c3, c4]) rfl (HR.out _ _ (readPost_bad HE.out (by decide) KB.out))
  have nv := Lib.hid hq
  have iv : ((s.extract 0 4).toList == [86, 69, 76, 77]) = true := by unfold isVelm at hq; simpa using hq
  clear hq
  by_cases hq : s.size < 14
  · have HQ := Lib.hid hq
    have i14 : (s.size : Int) < 14 := by omega
    clear hq
    have HE : Hid (readE s = ((s.size : Int), 10)) := Lib.hid (readE_bad s (headE_2 s n4 nv.out HQ.out) (by decide))
    obtain ⟨⟨c0, c1, c2, c3, c4⟩, f0, f1, f2, f3, f4⟩ := KR.out.cells
    obtain ⟨s0, s1, s2, s3, s4⟩ := KR.out.selfs
    go_wp2_with fail
    exact bodyPost_ret (v := .tuple #[.agg #[.slice none 0 0, .int .u16 0, .int .u16 0, .slice none 0 0, .slice none 0 0], .int .i64 ((s.size : Int)), .int .i64 10]) (by simp [results, Try.results58, go_sem, c0, c1, c2, c3, c4]) rfl (HR.out _ _ (readPost_bad HE.out (by decide) KB.out))
  have n14 := hq
  clear hq
  have i14 : ¬ (s.size : Int) < 14 := by omega
  have j4 : (4 : Int) ≤ s.size := by omega
  have j6 : (6 : Int) ≤ s.size := by omega
  have j8 : (8 : Int) ≤ s.size := by omega
  have j10 : (10 : Int) ≤ s.size := by omega
  have j12 : (12 : Int) ≤ s.size := by omega
  go_wp2_with fail
  refine (rgetk_any s 4 _ HS.out).mono ?_
  rintro e w' ⟨rfl, rfl⟩
  have x4 := KX.out.1
  go_wp2_with fail
  clear x4
  have KL : Hid (w.heap.size < (w.alloc (Obj.cells #[Value.slice none 0 0, Value.int IntKind.u16 0, Value.int IntKind.u16 0, Value.slice none 0 0, Value.slice none 0 0] 30)).heap.size) := Lib.hid (by simp)
  generalize w.alloc (Obj.cells #[Value.slice none 0 0, Value.int IntKind.u16 0, Value.int IntKind.u16 0, Value.slice none 0 0, Value.slice none 0 0] 30) = W0 at *
  refine' wp_region_flowR [[], [(40, 0)], [(41, 1)], [], [(43, 3)], [(44, 4)], [(42, 2), (45, 5)], [], [(40, 0), (41, 1), (42, 2), (43, 3), (44, 4), (45, 5), (46, 6), (6, 7)]] (relL [eqV _, eqV _, eqV _, eqV _, eqV _, eqV _, eqV _, ptrTo (Obj.cells #[Value.slice none 0 0, Value.int IntKind.u16 0, Value.int IntKind.u16 0, Value.slice none 0 0, Value.slice none 0 0] 30) W0, fun v V => True]) (by kernel_rfl) (by kernel_rfl) ?_
  rotate_left 7
  refine FlowR.step ?_ ?_
  · intro V hV
    simp only [Dep, Act.put, List.setIfInBounds_toArray, List.set_cons_zero, List.set_cons_succ]
    intro K hK
    go_simp
    refine hK _ _ ?_ (Below.refl _ _)
    simp only [relL, List.getElem?_cons_zero, List.getElem?_cons_succ, eqV]
    exact rfl
  refine FlowR.step ?_ ?_
  · intro V hV
    simp only [Dep, Act.put, List.setIfInBounds_toArray, List.set_cons_zero, List.set_cons_succ]
    rintro x40 ⟨V40, rfl, hb40⟩
    intro K hK
    go_simp
    refine hK _ _ ?_ (Below.refl _ _)
    simp only [relL, List.getElem?_cons_zero, List.getElem?_cons_succ, eqV]
    exact rfl
  refine FlowR.step ?_ ?_
  · intro V hV
    simp only [Dep, Act.put, List.setIfInBounds_toArray, List.set_cons_zero, List.set_cons_succ]
    rintro x41 ⟨V41, rfl, hb41⟩
    intro K hK
    go_simp
    go_at_call 39
    refine (rgetk_any s 6 V HS.out).mono ?_
    rintro e w9 ⟨rfl, rfl⟩
    refine hK _ _ ?_ (Below.refl _ _)
    simp only [relL, List.getElem?_cons_zero, List.getElem?_cons_succ, eqV]
    exact rfl
  refine FlowR.step ?_ ?_
  · intro V hV
    simp only [Dep, Act.put, List.setIfInBounds_toArray, List.set_cons_zero, List.set_cons_succ]
    intro K hK
    go_simp
    refine hK _ _ ?_ (Below.refl _ _)
    simp only [relL, List.getElem?_cons_zero, List.getElem?_cons_succ, eqV]
    exact rfl
  refine FlowR.step ?_ ?_
  · intro V hV
    simp only [Dep, Act.put, List.setIfInBounds_toArray, List.set_cons_zero, List.set_cons_succ]
    rintro x43 ⟨V43, rfl, hb43⟩
    intro K hK
    go_simp
    refine hK _ _ ?_ (Below.refl _ _)
    simp only [relL, List.getElem?_cons_zero, List.getElem?_cons_succ, eqV]
    exact rfl
  refine FlowR.step ?_ ?_
  · intro V hV
    simp only [Dep, Act.put, List.setIfInBounds_toArray, List.set_cons_zero, List.set_cons_succ]
    rintro x44 ⟨V44, rfl, hb44⟩
    intro K hK
    go_simp
    go_at_call 39
    refine (rgetk_any s 8 V HS.out).mono ?_
    rintro e w9 ⟨rfl, rfl⟩
    refine hK _ _ ?_ (Below.refl _ _)
    simp only [relL, List.getElem?_cons_zero, List.getElem?_cons_succ, eqV]
    exact rfl
  refine FlowR.step ?_ ?_
  · intro V hV
    simp only [Dep, Act.put, List.setIfInBounds_toArray, List.set_cons_zero, List.set_cons_succ]
    rintro x42 ⟨V42, rfl, hb42⟩
    rintro x45 ⟨V45, rfl, hb45⟩
    intro K hK
    go_simp
    refine hK _ _ ?_ (Below.refl _ _)
    simp only [relL, List.getElem?_cons_zero, List.getElem?_cons_succ, eqV]
    exact rfl
  refine FlowR.step ?_ ?_
  · intro V hV
    simp only [Dep, Act.put, List.setIfInBounds_toArray, List.set_cons_zero, List.set_cons_succ]
    intro K hK
    go_simp
    exact hK _ _ (ptr_at hV) (below1 _ _)
  refine FlowR.last ?_
  intro V hV
  simp only [Dep, Act.put, List.setIfInBounds_toArray, List.set_cons_zero, List.set_cons_succ]
  rintro x40 ⟨V40, rfl, hb40⟩
  rintro x41 ⟨V41, rfl, hb41⟩
  rintro x42 ⟨V42, rfl, hb42⟩
  rintro x43 ⟨V43, rfl, hb43⟩
  rintro x44 ⟨V44, rfl, hb44⟩
  rintro x45 ⟨V45, rfl, hb45⟩
  rintro x46 ⟨V46, rfl, hb46⟩
  rintro x6 ⟨V6, ⟨W9, rfl, rfl, hW9⟩, hb6⟩
  intro K hK
  obtain ⟨z0, g0⟩ := made_cells hb6 0 _ rfl
  obtain ⟨z1, g1⟩ := made_cells hb6 1 _ rfl
  obtain ⟨z2, g2⟩ := made_cells hb6 2 _ rfl
  obtain ⟨z3, g3⟩ := made_cells hb6 3 _ rfl
  obtain ⟨z4, g4⟩ := made_cells hb6 4 _ rfl
  have hN := nm_start (x := wordAt s 6) (y := wordAt s 8) KR.out KB.out KL.out hW9 hb6
  have KN := Lib.hid hN
  clear hN hW9 hb6 hV hb40 V40 hb41 V41 hb42 V42 hb43 V43 hb44 V44 hb45 V45 hb46 V46
  go_simp
  refine hK _ _ ?_
  clear hK K z0 z1 z2 z3 z4 g0 g1 g2 g3 g4
  generalize ((((V.setCell ⟨W9.heap.size, 0, none⟩ (.slice none 0 0)).setCell ⟨W9.heap.size, 1, none⟩ (.int .u16 (wordAt s 6))).setCell ⟨W9.heap.size, 2, none⟩ (.int .u16 (wordAt s 8))).setCell ⟨W9.heap.size, 3, none⟩ (.slice none 0 0)).setCell ⟨W9.heap.size, 4, none⟩ (.slice none 0 0) = W3 at *
  generalize W9.heap.size = N at *
  clear KR KB
  have KR := Lib.hid KN.out.r
  have KB := Lib.hid KN.out.m.below
  go_wp2_with fail
  refine (rgetk_any s 10 _ HS.out).mono ?_
  rintro e w' ⟨rfl, rfl⟩
  have x10 := KX.out.2.1
  go_wp2_with fail
  clear x10
  refine (rgetk_any s 12 _ HS.out).mono ?_
  rintro e w' ⟨rfl, rfl⟩
  have x12 := KX.out.2.2
  have i1 : W3.cell? ⟨N, 1, none⟩ = some (.int .u16 (wordAt s 6)) := KN.out.m.i1
  have i2 : W3.cell? ⟨N, 2, none⟩ = some (.int .u16 (wordAt s 8)) := KN.out.m.i2
  have NN := Lib.hid (And.intro n4 (And.intro nv.out n14))
  clear n4 n14 i4 i14 iv nv
  by_cases hq : wordAt s 4 < 1
  · have HQ := Lib.hid hq
    have dq : decide (wordAt s 4 < 1) = true := decide_eq_true hq
    clear hq
    have HE : Hid (readE s = (4, 22)) := Lib.hid (readE_bad s (headE_3 s NN.out.1 NN.out.2.1 NN.out.2.2 (.inl HQ.out)) (by decide))
    obtain ⟨⟨c0, c1, c2, c3, c4⟩, f0, f1, f2, f3, f4⟩ := KR.out.cells
    obtain ⟨s0, s1, s2, s3, s4⟩ := KR.out.selfs
    go_wp2_with fail
    exact bodyPost_ret (v := .tuple #[.agg #[.slice none 0 0, .int .u16 0, .int .u16 0, .slice none 0 0, .slice none 0 0], .int .i64 (4), .int .i64 22]) (by simp [results, Try.results58, go_sem, c0, c1, c2, c3, c4]) rfl (HR.out _ _ (readPost_bad HE.out (by decide) KB.out))
  have P1 : Hid (1 ≤ wordAt s 4) := Lib.hid (by omega)
  have d1 : decide (wordAt s 4 < 1) = false := decide_eq_false hq
  clear hq
  by_cases hq : 64 < wordAt s 4
  · have HQ := Lib.hid hq
    have dq : decide (64 < wordAt s 4) = true := decide_eq_true hq
    clear hq
    have HE : Hid (readE s = (4, 22)) := Lib.hid (readE_bad s (headE_3 s NN.out.1 NN.out.2.1 NN.out.2.2 (.inr HQ.out)) (by decide))
    obtain ⟨⟨c0, c1, c2, c3, c4⟩, f0, f1, f2, f3, f4⟩ := KR.out.cells
    obtain ⟨s0, s1, s2, s3, s4⟩ := KR.out.selfs
    go_wp2_with fail
    exact bodyPost_ret (v := .tuple #[.agg #[.slice none 0 0, .int .u16 0, .int .u16 0, .slice none 0 0, .slice none 0 0], .int .i64 (4), .int .i64 22]) (by simp [results, Try.results58, go_sem, c0, c1, c2, c3, c4]) rfl (HR.out _ _ (readPost_bad HE.out (by decide) KB.out))
  have P2 : Hid (wordAt s 4 ≤ 64) := Lib.hid (by omega)
  have d2 : decide (64 < wordAt s 4) = false := decide_eq_false hq
  clear hq
  by_cases hq : 512 < wordAt s 10
  · have HQ := Lib.hid hq
    have dq : decide (512 < wordAt s 10) = true := decide_eq_true hq
    clear hq
    have HE : Hid (readE s = (10, 2)) := Lib.hid (readE_bad s (headE_4 s NN.out.1 NN.out.2.1 NN.out.2.2 (by first | omega | (have := P1.out; have := P2.out; omega) | (have := P3.out; omega) | (have := P4.out; omega) | (have := P5.out; omega)) HQ.out) (by decide))
    obtain ⟨⟨c0, c1, c2, c3, c4⟩, f0, f1, f2, f3, f4⟩ := KR.out.cells
    obtain ⟨s0, s1, s2, s3, s4⟩ := KR.out.selfs
    go_wp2_with fail
    exact bodyPost_ret (v := .tuple #[.agg #[.slice none 0 0, .int .u16 0, .int .u16 0, .slice none 0 0, .slice none 0 0], .int .i64 (10), .int .i64 2]) (by simp [results, Try.results58, go_sem, c0, c1, c2, c3, c4]) rfl (HR.out _ _ (readPost_bad HE.out (by decide) KB.out))
  have P3 : Hid (wordAt s 10 ≤ 512) := Lib.hid (by omega)
  have d3 : decide (512 < wordAt s 10) = false := decide_eq_false hq
  clear hq
  by_cases hq : 20000 < wordAt s 12
  · have HQ := Lib.hid hq
    have dq : decide (20000 < wordAt s 12) = true := decide_eq_true hq
    clear hq
    have HE : Hid (readE s = (12, 2)) := Lib.hid (readE_bad s (headE_5 s NN.out.1 NN.out.2.1 NN.out.2.2 (by first | omega | (have := P1.out; have := P2.out; omega) | (have := P3.out; omega) | (have := P4.out; omega) | (have := P5.out; omega)) (by first | omega | (have := P1.out; have := P2.out; omega) | (have := P3.out; omega) | (have := P4.out; omega) | (have := P5.out; omega)) HQ.out) (by decide))
    obtain ⟨⟨c0, c1, c2, c3, c4⟩, f0, f1, f2, f3, f4⟩ := KR.out.cells
    obtain ⟨s0, s1, s2, s3, s4⟩ := KR.out.selfs
    go_wp2_with fail
    exact bodyPost_ret (v := .tuple #[.agg #[.slice none 0 0, .int .u16 0, .int .u16 0, .slice none 0 0, .slice none 0 0], .int .i64 (12), .int .i64 2]) (by simp [results, Try.results58, go_sem, c0, c1, c2, c3, c4]) rfl (HR.out _ _ (readPost_bad HE.out (by decide) KB.out))
  have P4 : Hid (wordAt s 12 ≤ 20000) := Lib.hid (by omega)
  have d4 : decide (20000 < wordAt s 12) = false := decide_eq_false hq
  clear hq
  by_cases hq : 4096 ≤ wordAt s 6
  · have HQ := Lib.hid hq
    have dq : decide (4096 ≤ wordAt s 6) = true := decide_eq_true hq
    clear hq
    have HE : Hid (readE s = (6, 37)) := Lib.hid (readE_bad s (headE_6 s NN.out.1 NN.out.2.1 NN.out.2.2 (by first | omega | (have := P1.out; have := P2.out; omega) | (have := P3.out; omega) | (have := P4.out; omega) | (have := P5.out; omega)) (by first | omega | (have := P1.out; have := P2.out; omega) | (have := P3.out; omega) | (have := P4.out; omega) | (have := P5.out; omega)) (by first | omega | (have := P1.out; have := P2.out; omega) | (have := P3.out; omega) | (have := P4.out; omega) | (have := P5.out; omega)) HQ.out) (by decide))
    obtain ⟨⟨c0, c1, c2, c3, c4⟩, f0, f1, f2, f3, f4⟩ := KR.out.cells
    obtain ⟨s0, s1, s2, s3, s4⟩ := KR.out.selfs
    go_wp2_with fail
    exact bodyPost_ret (v := .tuple #[.agg #[.slice none 0 0, .int .u16 0, .int .u16 0, .slice none 0 0, .slice none 0 0], .int .i64 (6), .int .i64 37]) (by simp [results, Try.results58, go_sem, c0, c1, c2, c3, c4]) rfl (HR.out _ _ (readPost_bad HE.out (by decide) KB.out))
  have P5 : Hid (wordAt s 6 < 4096) := Lib.hid (by omega)
  have d5 : decide (4096 ≤ wordAt s 6) = false := decide_eq_false hq
  clear hq
  by_cases hq : 4096 ≤ wordAt s 8
  · have HQ := Lib.hid hq
    have dq : decide (4096 ≤ wordAt s 8) = true := decide_eq_true hq
    clear hq
    have HE : Hid (readE s = (8, 37)) := Lib.hid (readE_bad s (headE_7 s NN.out.1 NN.out.2.1 NN.out.2.2 (by first | omega | (have := P1.out; have := P2.out; omega) | (have := P3.out; omega) | (have := P4.out; omega) | (have := P5.out; omega)) (by first | omega | (have := P1.out; have := P2.out; omega) | (have := P3.out; omega) | (have := P4.out; omega) | (have := P5.out; omega)) (by first | omega | (have := P1.out; have := P2.out; omega) | (have := P3.out; omega) | (have := P4.out; omega) | (have := P5.out; omega)) (by first | omega | (have := P1.out; have := P2.out; omega) | (have := P3.out; omega) | (have := P4.out; omega) | (have := P5.out; omega)) HQ.out) (by decide))
    obtain ⟨⟨c0, c1, c2, c3, c4⟩, f0, f1, f2, f3, f4⟩ := KR.out.cells
    obtain ⟨s0, s1, s2, s3, s4⟩ := KR.out.selfs
    go_wp2_with fail
    exact bodyPost_ret (v := .tuple #[.agg #[.slice none 0 0, .int .u16 0, .int .u16 0, .slice none 0 0, .slice none 0 0], .int .i64 (8), .int .i64 37]) (by simp [results, Try.results58, go_sem, c0, c1, c2, c3, c4]) rfl (HR.out _ _ (readPost_bad HE.out (by decide) KB.out))
  have P6 : Hid (wordAt s 8 < 4096) := Lib.hid (by omega)
  have d6 : decide (4096 ≤ wordAt s 8) = false := decide_eq_false hq
  clear hq
  have p1 := P1.out
  have p2 := P2.out
  have p3 := P3.out
  have p4 := P4.out
  have p5 := P5.out
  have p6 := P6.out
  have hok : (headE s).2 = 0 := by rw [headE_8 s NN.out.1 NN.out.2.1 NN.out.2.2 (by omega) (by omega) (by omega) (by omega) (by omega)]
  have HOK := Lib.hid hok
  clear hok p1 p2 p3 p4 p5 p6
  go_upto_region 21 with (fail)
  clear x12 i1 i2 d1 d2 d3 d4 d5 d6
  have p1 := P1.out
  have p2 := P2.out
  have p3 := P3.out
  have p4 := P4.out
  have p5 := P5.out
  have p6 := P6.out
  have h10 : wordAt s 10 = (nO s : Int) := (nO_cast s).symm
  have h12 : wordAt s 12 = (nR s : Int) := (nR_cast s).symm
  have h4 : wordAt s 4 = (nB s : Int) := (nB_cast s).symm
  have n1 : nO s ≤ 512 := by omega
  have n2 : nR s ≤ 20000 := by omega
  have n3 : 1 ≤ nB s := by omega
  have n4 : nB s ≤ 64 := by omega
  have hF : 14 + 5 * (nO s : Int) = (firstA s : Int) := by unfold firstA; omega
  have hS0 : (firstA s : Int) + 3 * (nR s : Int) = (startA s : Int) := by unfold startA; omega
  have hT : (startA s : Int) + 4096 * (nB s : Int) = (stopA s : Int) := by unfold stopA; omega
  have dF : firstA s = 14 + 5 * nO s := rfl
  have dS : startA s = firstA s + 3 * nR s := rfl
  have dT : stopA s = startA s + 4096 * nB s := rfl
  have m1 : firstA s ≤ 2574 := by omega
  have m2 : startA s ≤ 62574 := by omega
  have m3 : stopA s ≤ 324718 := by omega
  have KD := Lib.hid (And.intro dF (And.intro dS dT))
  clear dF dS dT
  rw [h4, h10, h12]
  have q1 : (1 : Int) ≤ (nB s : Int) := by omega
  have q2 : (nB s : Int) ≤ 64 := by omega
  have q3 : (nO s : Int) ≤ 512 := by omega
  have q4 : (nR s : Int) ≤ 20000 := by omega
  clear h4 h10 h12 p1 p2 p3 p4 p5 p6 b4a b4b b10a b10b b12a b12b
  by_cases hq : s.size < stopA s + 2
  · have HQ := Lib.hid hq
    have dq : decide ((s.size : Int) < (stopA s : Int) + 2) = true := decide_eq_true (by omega)
    clear hq
    have HE : Hid (readE s = ((s.size : Int), 10)) := Lib.hid (readE_short s HOK.out HQ.out)
    obtain ⟨⟨c0, c1, c2, c3, c4⟩, f0, f1, f2, f3, f4⟩ := KR.out.cells
    obtain ⟨s0, s1, s2, s3, s4⟩ := KR.out.selfs
    go_wp2_with fail
    exact bodyPost_ret (v := .tuple #[.agg #[.slice none 0 0, .int .u16 0, .int .u16 0, .slice none 0 0, .slice none 0 0], .int .i64 ((s.size : Int)), .int .i64 10]) (by simp [results, Try.results58, go_sem, c0, c1, c2, c3, c4]) rfl (HR.out _ _ (readPost_bad HE.out (by decide) KB.out))
  have r1 := hq
  clear hq
  by_cases hq : stopA s + 2 < s.size
  · have HQ := Lib.hid hq
    have dq : decide ((stopA s : Int) + 2 < (s.size : Int)) = true := decide_eq_true (by omega)
    have dr : decide ((s.size : Int) < (stopA s : Int) + 2) = false := decide_eq_false (by omega)
    clear hq r1
    have HE : Hid (readE s = ((stopA s : Int) + 2, 20)) := Lib.hid ((readE_long s HOK.out HQ.out).trans (by push_cast; rfl))
    obtain ⟨⟨c0, c1, c2, c3, c4⟩, f0, f1, f2, f3, f4⟩ := KR.out.cells
    obtain ⟨s0, s1, s2, s3, s4⟩ := KR.out.selfs
    go_wp2_with fail
    exact bodyPost_ret (v := .tuple #[.agg #[.slice none 0 0, .int .u16 0, .int .u16 0, .slice none 0 0, .slice none 0 0], .int .i64 ((stopA s : Int) + 2), .int .i64 20]) (by simp [results, Try.results58, go_sem, c0, c1, c2, c3, c4]) rfl (HR.out _ _ (readPost_bad HE.out (by decide) KB.out))
  have hz : s.size = stopA s + 2 := by omega
  clear hq r1
  have r1 : decide ((s.size : Int) < (stopA s : Int) + 2) = false := decide_eq_false (by omega)
  have r2 : decide ((stopA s : Int) + 2 < (s.size : Int)) = false := decide_eq_false (by omega)
  have hz1 : stopA s + 2 ≤ s.size := by omega
  have hz2 : s.size ≤ 324720 := by omega
  have HZ := Lib.hid hz
  clear hz
  have tT0 : (0 : Int) ≤ (stopA s : Int) := by omega
  have tT1 : (stopA s : Int) ≤ (s.size : Int) := by omega
  have cSum : Hid (∀ V : World, Calls Try.prog 57 #[.string (s.extract 0 (stopA s))] V fun e w' => e = .returned (.int .u16 (sumI (s.extract 0 (stopA s)) (stopA s))) ∧ V = w') := Lib.hid fun V => by
    have hsz : (s.extract 0 (stopA s)).size = stopA s := by rw [ByteArray.size_extract]; omega
    have := rsum_any (s.extract 0 (stopA s)) V (by rw [hsz]; unfold maxLen; omega)
    rwa [hsz] at this
  go_wp2_with fail
  clear r1 r2 hF hS0 hT
  refine wp_region_flow (S := fun V => Below W3.heap.size W3 V) (by kernel_rfl) (by kernel_rfl) (Below.drew (Below.refl _ _)) ?_
  refine Flow.step ?_ ?_ ?_
  rotate_left
  · intro V K hS hK
    go_simp
    exact hK _ hS
  simp only [Act.put, List.setIfInBounds_toArray, List.set_cons_zero, List.set_cons_succ]
  refine Flow.step ?_ ?_ ?_
  rotate_left
  · intro V K hS hK
    go_simp
    exact hK _ hS
  simp only [Act.put, List.setIfInBounds_toArray, List.set_cons_zero, List.set_cons_succ]
  refine Flow.step ?_ ?_ ?_
  rotate_left
  · intro V K hS hK
    go_simp
    exact hK _ hS
  simp only [Act.put, List.setIfInBounds_toArray, List.set_cons_zero, List.set_cons_succ]
  refine Flow.step ?_ ?_ ?_
  rotate_left
  · intro V K hS hK
    go_simp
    go_at_call 39
    refine (rgetk_any s (stopA s) V HS.out).mono ?_
    rintro e w9 ⟨rfl, rfl⟩
    exact hK _ (hS)
  simp only [Act.put, List.setIfInBounds_toArray, List.set_cons_zero, List.set_cons_succ]
  refine Flow.step ?_ ?_ ?_
  rotate_left
  · intro V K hS hK
    go_simp
    exact hK _ hS
  simp only [Act.put, List.setIfInBounds_toArray, List.set_cons_zero, List.set_cons_succ]
  refine Flow.step ?_ ?_ ?_
  rotate_left
  · intro V K hS hK
    go_simp
    exact hK _ hS
  simp only [Act.put, List.setIfInBounds_toArray, List.set_cons_zero, List.set_cons_succ]
  refine Flow.step ?_ ?_ ?_
  rotate_left
  · intro V K hS hK
    go_simp
    exact hK _ hS
  simp only [Act.put, List.setIfInBounds_toArray, List.set_cons_zero, List.set_cons_succ]
  refine Flow.step ?_ ?_ ?_
  rotate_left
  · intro V K hS hK
    go_simp
    go_at_call 57
    refine (cSum.out V).mono ?_
    rintro e w9 ⟨rfl, rfl⟩
    exact hK _ (hS)
  simp only [Act.put, List.setIfInBounds_toArray, List.set_cons_zero, List.set_cons_succ]
  refine Flow.step ?_ ?_ ?_
  rotate_left
  · intro V K hS hK
    go_simp
    exact hK _ hS
  simp only [Act.put, List.setIfInBounds_toArray, List.set_cons_zero, List.set_cons_succ]
  refine Flow.done ?_
  intro V hS
  have KN1 := Lib.hid (KN.out.next hS)
  clear hS KN KR KB
  have KR := Lib.hid KN1.out.r
  have KB := Lib.hid KN1.out.m.below
  clear cSum tT0 tT1
  rcases (Bool.eq_false_or_eq_true (wordAt s (stopA s) == sumI (s.extract 0 (stopA s)) (stopA s))).symm with hsb | hsb
  · have hq : wordAt s (stopA s) ≠ sumI (s.extract 0 (stopA s)) (stopA s) := by simpa using hsb
    have HQ := Lib.hid hq
    have hsn : (wordAt s (stopA s) != sumI (s.extract 0 (stopA s)) (stopA s)) = true := by simpa using hq
    clear hq
    rw [hsn]
    clear hsn hsb
    have HE : Hid (readE s = ((stopA s : Int), 21)) := Lib.hid (readE_sum s HOK.out HZ.out HQ.out)
    obtain ⟨⟨c0, c1, c2, c3, c4⟩, f0, f1, f2, f3, f4⟩ := KR.out.cells
    obtain ⟨s0, s1, s2, s3, s4⟩ := KR.out.selfs
    go_wp2_with fail
    exact bodyPost_ret (v := .tuple #[.agg #[.slice none 0 0, .int .u16 0, .int .u16 0, .slice none 0 0, .slice none 0 0], .int .i64 ((stopA s : Int)), .int .i64 21]) (by simp [results, Try.results58, go_sem, c0, c1, c2, c3, c4]) rfl (HR.out _ _ (readPost_bad HE.out (by decide) KB.out))
  have hsn : (wordAt s (stopA s) != sumI (s.extract 0 (stopA s)) (stopA s)) = false := by simpa using hsb
  have HSB := Lib.hid hsb
  rw [hsn]
  clear hsb hsn
  go_wp2_with fail
  obtain ⟨V0, rfl⟩ : ∃ V0 : World, V0 = V := ⟨_, rfl⟩
  have KN := KN1
  clear KN1
  go_loopw [12] (fun i wr => ∃ (k : Nat) (v1 : Value), k ≤ nB s ∧ i = .int .i64 k ∧ NM w N wr (prt s k 0 0) v1 (.slice none 0 0) (.slice none 0 0)) (fun i _ => nB s - (intOf i).toNat)
  case atStart => exact ⟨0, .slice none 0 0, Nat.zero_le _, rfl, KN.out⟩
  case round =>
    clear KN KR KB
    obtain ⟨k, v1, hk, rfl, hm⟩ := hrel
    have KM := Lib.hid hm
    clear hm
    by_cases hlt : k < nB s
    · have hb0 : decide ((k : Int) < (nB s : Int)) = true := decide_eq_true (by omega)
      obtain ⟨q1, e1, rfl, hO1⟩ := KM.out.own1
      have hd := KD.out.2.2
      have x0 : IntKind.i64.wrap (4096 * (k : Int)) = 4096 * (k : Int) := IntWalk.i64_in _ (by omega)
      have x1 : IntKind.i64.wrap ((startA s : Int) + 4096 * (k : Int)) = (startA s : Int) + 4096 * (k : Int) := IntWalk.i64_in _ (by omega)
      have x4 : IntKind.i64.wrap ((startA s : Int) + 4096 * (k : Int) + 4096) = (startA s : Int) + 4096 * (k : Int) + 4096 := IntWalk.i64_in _ (by omega)
      have x5 : (0 : Int) ≤ (startA s : Int) + 4096 * (k : Int) := by omega
      have x6 : (startA s : Int) + 4096 * (k : Int) ≤ (startA s : Int) + 4096 * (k : Int) + 4096 := by omega
      have x7 : (startA s : Int) + 4096 * (k : Int) + 4096 ≤ (s.size : Int) := by have := HZ.out; omega
      have x8 : ((startA s : Int) + 4096 * (k : Int)).toNat = startA s + k * 4096 := by omega
      have x9 : ((startA s : Int) + 4096 * (k : Int) + 4096).toNat = startA s + (k + 1) * 4096 := by omega
      have x2 : IntKind.i64.wrap ((k : Int) + 1) = (k : Int) + 1 := IntWalk.i64_in _ (by omega)
      have HX := Lib.hid (And.intro x0 (And.intro x1 (And.intro x4 (And.intro x5 (And.intro x6 (And.intro x7 (And.intro x8 (And.intro x9 x2))))))))
      have HO1 := Lib.hid hO1
      clear hO1 hd x0 x1 x2 x4 x5 x6 x7 x8 x9
      go_wp2_with fail
      clear hb0
      obtain ⟨x0, x1, x4, x5, x6, x7, x8, x9, x2⟩ := HX.out
      refine' wp_region_flowS 14 [14, 16] [[], [(119, 0)], [], [], [], [(123, 4)], [(122, 3), (124, 5)], [], [], [(127, 8)], [(126, 7), (128, 9)], [(129, 10)], [(121, 2), (125, 6), (130, 11)], [(131, 12)], [(120, 1), (132, 13)], [], [(134, 15), (133, 14)]] [(119, 0), (120, 1), (121, 2), (122, 3), (123, 4), (124, 5), (125, 6), (126, 7), (127, 8), (128, 9), (129, 10), (130, 11), (131, 12), (132, 13), (134, 15)] (relL [eqV _, eqV _, eqV _, eqV _, eqV _, eqV _, eqV _, eqV _, eqV _, eqV _, eqV _, eqV _, eqV _, NewS (.string (s.extract (startA s + k * 4096) (startA s + (k + 1) * 4096))) 9, fun v V => True, eqV _, fun v V => True]) [(14, _), (16, _)] (by kernel_rfl) (by kernel_rfl) rfl ?_ ?_
      rotate_left 14
      · refine FlowS.mem (by decide) ?_ ?_
        · intro V hV
          simp only [Dep, Act.put, List.setIfInBounds_toArray, List.set_cons_zero, List.set_cons_succ]
          intro K hK
          go_simp
          refine hK _ _ ?_ (Below.refl _ _)
          simp only [relL, eqV]
          exact rfl
        refine FlowS.mem (by decide) ?_ ?_
        · intro V hV
          simp only [Dep, Act.put, List.setIfInBounds_toArray, List.set_cons_zero, List.set_cons_succ]
          rintro x119 ⟨V119, rfl, hb119⟩
          intro K hK
          have i0 := (KM.out.next hV).m.i0
          go_simp
          refine hK _ _ ?_ (Below.refl _ _)
          simp only [relL, eqV]
          exact rfl
        refine FlowS.mem (by decide) ?_ ?_
        · intro V hV
          simp only [Dep, Act.put, List.setIfInBounds_toArray, List.set_cons_zero, List.set_cons_succ]
          intro K hK
          go_simp
          refine hK _ _ ?_ (Below.refl _ _)
          simp only [relL, eqV]
          exact rfl
        refine FlowS.mem (by decide) ?_ ?_
        · intro V hV
          simp only [Dep, Act.put, List.setIfInBounds_toArray, List.set_cons_zero, List.set_cons_succ]
          intro K hK
          go_simp
          refine hK _ _ ?_ (Below.refl _ _)
          simp only [relL, eqV]
          exact rfl
        refine FlowS.mem (by decide) ?_ ?_
        · intro V hV
          simp only [Dep, Act.put, List.setIfInBounds_toArray, List.set_cons_zero, List.set_cons_succ]
          intro K hK
          go_simp
          refine hK _ _ ?_ (Below.refl _ _)
          simp only [relL, eqV]
          exact rfl
        refine FlowS.mem (by decide) ?_ ?_
        · intro V hV
          simp only [Dep, Act.put, List.setIfInBounds_toArray, List.set_cons_zero, List.set_cons_succ]
          rintro x123 ⟨V123, rfl, hb123⟩
          intro K hK
          go_simp
          refine hK _ _ ?_ (Below.refl _ _)
          simp only [relL, eqV]
          exact rfl
        refine FlowS.mem (by decide) ?_ ?_
        · intro V hV
          simp only [Dep, Act.put, List.setIfInBounds_toArray, List.set_cons_zero, List.set_cons_succ]
          rintro x122 ⟨V122, rfl, hb122⟩
          rintro x124 ⟨V124, rfl, hb124⟩
          intro K hK
          go_simp
          refine hK _ _ ?_ (Below.refl _ _)
          simp only [relL, eqV]
          exact rfl
        refine FlowS.mem (by decide) ?_ ?_
        · intro V hV
          simp only [Dep, Act.put, List.setIfInBounds_toArray, List.set_cons_zero, List.set_cons_succ]
          intro K hK
          go_simp
          refine hK _ _ ?_ (Below.refl _ _)
          simp only [relL, eqV]
          exact rfl
        refine FlowS.mem (by decide) ?_ ?_
        · intro V hV
          simp only [Dep, Act.put, List.setIfInBounds_toArray, List.set_cons_zero, List.set_cons_succ]
          intro K hK
          go_simp
          refine hK _ _ ?_ (Below.refl _ _)
          simp only [relL, eqV]
          exact rfl
        refine FlowS.mem (by decide) ?_ ?_
        · intro V hV
          simp only [Dep, Act.put, List.setIfInBounds_toArray, List.set_cons_zero, List.set_cons_succ]
          rintro x127 ⟨V127, rfl, hb127⟩
          intro K hK
          go_simp
          refine hK _ _ ?_ (Below.refl _ _)
          simp only [relL, eqV]
          exact rfl
        refine FlowS.mem (by decide) ?_ ?_
        · intro V hV
          simp only [Dep, Act.put, List.setIfInBounds_toArray, List.set_cons_zero, List.set_cons_succ]
          rintro x126 ⟨V126, rfl, hb126⟩
          rintro x128 ⟨V128, rfl, hb128⟩
          intro K hK
          go_simp
          refine hK _ _ ?_ (Below.refl _ _)
          simp only [relL, eqV]
          exact rfl
        refine FlowS.mem (by decide) ?_ ?_
        · intro V hV
          simp only [Dep, Act.put, List.setIfInBounds_toArray, List.set_cons_zero, List.set_cons_succ]
          rintro x129 ⟨V129, rfl, hb129⟩
          intro K hK
          go_simp
          refine hK _ _ ?_ (Below.refl _ _)
          simp only [relL, eqV]
          exact rfl
        refine FlowS.mem (by decide) ?_ ?_
        · intro V hV
          simp only [Dep, Act.put, List.setIfInBounds_toArray, List.set_cons_zero, List.set_cons_succ]
          rintro x121 ⟨V121, rfl, hb121⟩
          rintro x125 ⟨V125, rfl, hb125⟩
          rintro x130 ⟨V130, rfl, hb130⟩
          intro K hK
          go_simp
          refine hK _ _ ?_ (Below.refl _ _)
          simp only [relL, eqV]
          exact rfl
        refine FlowS.mem (by decide) ?_ ?_
        · intro V hV
          simp only [Dep, Act.put, List.setIfInBounds_toArray, List.set_cons_zero, List.set_cons_succ]
          rintro x131 ⟨V131, rfl, hb131⟩
          intro K hK
          go_simp
          exact hK _ _ ⟨V, rfl, rfl⟩ (below1 _ _)
        refine FlowS.store (by decide) rfl ?_
        refine FlowS.val (by decide) _ (fun _ _ => Iff.rfl) ?_ ?_
        · simp only [DepP, Act.put, List.setIfInBounds_toArray, List.set_cons_zero, List.set_cons_succ]
          intro V K hK
          go_simp
          exact hK
        refine FlowS.store (by decide) rfl ?_
        exact FlowS.nil
      · intro V hV
        simp only [Dep, Act.put, List.setIfInBounds_toArray, List.set_cons_zero, List.set_cons_succ]
        rintro x119 ⟨V119, rfl, hb119⟩
        rintro x120 ⟨V120, rfl, hb120⟩
        rintro x121 ⟨V121, rfl, hb121⟩
        rintro x122 ⟨V122, rfl, hb122⟩
        rintro x123 ⟨V123, rfl, hb123⟩
        rintro x124 ⟨V124, rfl, hb124⟩
        rintro x125 ⟨V125, rfl, hb125⟩
        rintro x126 ⟨V126, rfl, hb126⟩
        rintro x127 ⟨V127, rfl, hb127⟩
        rintro x128 ⟨V128, rfl, hb128⟩
        rintro x129 ⟨V129, rfl, hb129⟩
        rintro x130 ⟨V130, rfl, hb130⟩
        rintro x131 ⟨V131, rfl, hb131⟩
        rintro x132 ⟨V132, ⟨W9, rfl, rfl⟩, hb132⟩
        rintro x134 ⟨V134, rfl, hb134⟩
        have HM := Lib.hid (KM.out.next hV)
        have HO := Lib.hid (own_next HO1.out hV)
        have i0 := HM.out.m.i0
        intro K1 hK1
        obtain ⟨hi9, hz9, hs9, hb9⟩ := HI9.out
        refine (if_pos (by rfl)).mpr ?_
        refine wp_append_lies _ _ _ _ rfl (N + 1) 9 i9 (.string ByteArray.empty) 1 16 Try.underlying25 hi9 hz9 hs9 hb9 rfl (by decide) _ _ _ rfl HO.out ⟨W9.heap.size, 0, none⟩ 1 1 [.string (s.extract (startA s + k * 4096) (startA s + (k + 1) * 4096))] rfl rfl (news_at hb132 _ rfl) (one_str _) (by decide) (by unfold maxLen; omega) (by omega) (by have := HM.out.m.hw; omega) _ rfl ?_
        intro g cap w3 hown hg _ _
        refine hK1 _ _ ?_
        simp only [Act.put, List.setIfInBounds_toArray, List.set_cons_zero, List.set_cons_succ]
        clear hK1 K1 hi9 hz9 hs9 hb9 i0
        have HP := Lib.hid (HM.out.add1 hown hg)
        have hb3 : Below (N + 1) V w3 := (Below.refl _ _).grown hg HM.out.m.hw (fun j e => (HO.out.lt j e).1)
        have i0 := (hb3.cell (p := ⟨N, 0, none⟩) (Nat.lt_succ_self _)).trans HM.out.m.i0
        have f0 := (hb3.frozen (p := ⟨N, 0, none⟩) (Nat.lt_succ_self _)).trans HM.out.m.f0
        clear hb3 hown hg HM HO
        intro K1 hK1
        go_simp
        refine hK1 undef _ ?_
        clear hK1 K1 i0 f0
        unfold TailS
        go_wp2_with fail
        go_roundw
        case rel => exact ⟨k + 1, .slice (some ⟨g, 0, none⟩) (k + 1) cap, by omega, by go_num, HP.out⟩
        case measure => simp [intOf]; omega
    · obtain rfl : k = nB s := by omega
      have hb0 : decide ((nB s : Int) < (nB s : Int)) = false := decide_eq_false (by omega)
      clear hlt hk
      go_wp2_with fail
      clear hb0
      obtain ⟨wo, rfl⟩ : ∃ wo : World, wo = wr := ⟨_, rfl⟩
      go_loopw [13] (fun i wr => ∃ (k : Nat) (v2 : Value), k ≤ nO s ∧ i = .int .i64 k ∧ NM w N wr (prt s (nB s) k 0) v1 v2 (.slice none 0 0) ∧ OStep s k) (fun i _ => nO s - (intOf i).toNat)
      case atStart => exact ⟨0, .slice none 0 0, Nat.zero_le _, rfl, KM.out, OStep.start s⟩
      case round =>
        clear KM
        obtain ⟨k, v2, hk, rfl, hm, hst⟩ := hrel
        have KM := Lib.hid hm
        have KST := Lib.hid hst
        clear hm hst
        by_cases hlt : k < nO s
        · have hb0 : decide ((k : Int) < (nO s : Int)) = true := decide_eq_true (by omega)
          obtain ⟨q2, e2, rfl, hO2⟩ := KM.out.own2
          have HO2 := Lib.hid hO2
          have hd := KD.out
          have x0 : IntKind.i64.wrap (5 * (k : Int)) = 5 * (k : Int) := IntWalk.i64_in _ (by omega)
          have x1 : IntKind.i64.wrap (14 + 5 * (k : Int)) = 14 + 5 * (k : Int) := IntWalk.i64_in _ (by omega)
          have x2 : IntKind.i64.wrap ((k : Int) + 1) = (k : Int) + 1 := IntWalk.i64_in _ (by omega)
          have x9 : 14 + 5 * k + 5 ≤ s.size := by have := HZ.out; omega
          have HX2 := Lib.hid x2
          clear hd hO2 x2
          go_wp2_with fail
          clear hb0 x0 x1
          have hmk : 14 + 5 * (k : Int) = ((14 + 5 * k : Nat) : Int) := by push_cast; rfl
          rw [hmk]
          have KX : Hid (byteI s (14 + 5 * k) = byteI s (14 + 5 * k) ∧ wordAt s (14 + 5 * k + 1) = wordAt s (14 + 5 * k + 1) ∧ wordAt s (14 + 5 * k + 3) = wordAt s (14 + 5 * k + 3)) := ⟨rfl, rfl, rfl⟩
          have KMK := Lib.hid hmk
          have hob : objAt s k = ⟨if byteI s (14 + 5 * k) = 255 then -1 else byteI s (14 + 5 * k), wordAt s (14 + 5 * k + 1), wordAt s (14 + 5 * k + 3)⟩ := rfl
          have KOB := Lib.hid hob
          clear hmk hob KX
          generalize 14 + 5 * k = m at *
          have y9 : m < s.size := by omega
          have y0 : (0 : Int) ≤ (m : Int) := by omega
          have y1 : (m : Int) < (s.size : Int) := by omega
          have y2 : IntKind.i64.wrap ((m : Int) + 1) = (m : Int) + 1 := IntWalk.i64_in _ (by omega)
          have y3 : IntKind.i64.wrap ((m : Int) + 3) = (m : Int) + 3 := IntWalk.i64_in _ (by omega)
          have y4 : (0 : Int) ≤ (m : Int) + 1 := by omega
          have y5 : (0 : Int) ≤ (m : Int) + 3 := by omega
          have y6 : (m : Int) + 1 ≤ (s.size : Int) := by omega
          have y7 : (m : Int) + 3 ≤ (s.size : Int) := by omega
          have y8 : ((m : Int) + 1).toNat = m + 1 := by omega
          have y8b : ((m : Int) + 3).toNat = m + 3 := by omega
          have bb := byteI_bd s m
          have hx0a : ((s[m]'y9).toNat : Int) = byteI s m := byteI_at s m y9
          have hx0 : IntKind.i64.wrap (byteI s m) = byteI s m := IntWalk.i64_in _ (by omega)
          generalize byteI s m = bz at *
          obtain ⟨c1, hc1⟩ : ∃ c, c = wordAt s (m + 1) := ⟨_, rfl⟩
          obtain ⟨c3, hc3⟩ : ∃ c, c = wordAt s (m + 3) := ⟨_, rfl⟩
          have cG1 : Hid (∀ V : World, Calls Try.prog 39 #[.string (s.extract (m + 1) s.size)] V fun e w' => e = .returned (.int .u16 c1) ∧ V = w') := Lib.hid fun V => by rw [hc1]; exact rgetk_any s _ V HS.out
          have cG3 : Hid (∀ V : World, Calls Try.prog 39 #[.string (s.extract (m + 3) s.size)] V fun e w' => e = .returned (.int .u16 c3) ∧ V = w') := Lib.hid fun V => by rw [hc3]; exact rgetk_any s _ V HS.out
          rw [← hc1, ← hc3] at KOB
          have KC1 : Hid (OkU16 c1 ∧ OkU16 c3) := Lib.hid (by rw [hc1, hc3]; exact ⟨wordAt_bd _ _, wordAt_bd _ _⟩)
          clear hc1 hc3 x9
          refine' wp_region_flowR [[], [], [(143, 0), (144, 1)], [(145, 2)], [], [], [(148, 5)], [(147, 4), (149, 6)], [(150, 7)], [], [], [(153, 10)], [(152, 9), (154, 11)], [(155, 12)], [(146, 3), (151, 8), (156, 13)], [], [(143, 0), (144, 1), (145, 2), (146, 3), (147, 4), (148, 5), (149, 6), (150, 7), (151, 8), (152, 9), (153, 10), (154, 11), (155, 12), (156, 13), (157, 14), (15, 15)]] (relL [eqV _, eqV _, eqV _, eqV _, eqV _, eqV _, eqV _, eqV _, eqV _, eqV _, eqV _, eqV _, eqV _, eqV _, eqV _, ptrTo (Obj.cells #[Value.int IntKind.i64 0, Value.int IntKind.u16 0, Value.int IntKind.u16 0] 39) wr, fun v V => True]) (by kernel_rfl) (by kernel_rfl) ?_
          rotate_left 15
          refine FlowR.step ?_ ?_
          · intro V hV
            simp only [Dep, Act.put, List.setIfInBounds_toArray, List.set_cons_zero, List.set_cons_succ]
            intro K hK
            go_simp
            refine hK _ _ ?_ (Below.refl _ _)
            simp only [relL, List.getElem?_cons_zero, List.getElem?_cons_succ, eqV]
            exact rfl
          refine FlowR.step ?_ ?_
          · intro V hV
            simp only [Dep, Act.put, List.setIfInBounds_toArray, List.set_cons_zero, List.set_cons_succ]
            intro K hK
            go_simp
            refine hK _ _ ?_ (Below.refl _ _)
            simp only [relL, List.getElem?_cons_zero, List.getElem?_cons_succ, eqV]
            exact rfl
          refine FlowR.step ?_ ?_
          · intro V hV
            simp only [Dep, Act.put, List.setIfInBounds_toArray, List.set_cons_zero, List.set_cons_succ]
            rintro x143 ⟨V143, rfl, hb143⟩
            rintro x144 ⟨V144, rfl, hb144⟩
            intro K hK
            go_simp
            refine hK _ _ ?_ (Below.refl _ _)
            simp only [relL, List.getElem?_cons_zero, List.getElem?_cons_succ, eqV]
            exact rfl
          refine FlowR.step ?_ ?_
          · intro V hV
            simp only [Dep, Act.put, List.setIfInBounds_toArray, List.set_cons_zero, List.set_cons_succ]
            rintro x145 ⟨V145, rfl, hb145⟩
            intro K hK
            go_simp
            refine hK _ _ ?_ (Below.refl _ _)
            simp only [relL, List.getElem?_cons_zero, List.getElem?_cons_succ, eqV]
            exact rfl
          refine FlowR.step ?_ ?_
          · intro V hV
            simp only [Dep, Act.put, List.setIfInBounds_toArray, List.set_cons_zero, List.set_cons_succ]
            intro K hK
            go_simp
            refine hK _ _ ?_ (Below.refl _ _)
            simp only [relL, List.getElem?_cons_zero, List.getElem?_cons_succ, eqV]
            exact rfl
          refine FlowR.step ?_ ?_
          · intro V hV
            simp only [Dep, Act.put, List.setIfInBounds_toArray, List.set_cons_zero, List.set_cons_succ]
            intro K hK
            go_simp
            refine hK _ _ ?_ (Below.refl _ _)
            simp only [relL, List.getElem?_cons_zero, List.getElem?_cons_succ, eqV]
            exact rfl
          refine FlowR.step ?_ ?_
          · intro V hV
            simp only [Dep, Act.put, List.setIfInBounds_toArray, List.set_cons_zero, List.set_cons_succ]
            rintro x148 ⟨V148, rfl, hb148⟩
            intro K hK
            go_simp
            refine hK _ _ ?_ (Below.refl _ _)
            simp only [relL, List.getElem?_cons_zero, List.getElem?_cons_succ, eqV]
            exact rfl
          refine FlowR.step ?_ ?_
          · intro V hV
            simp only [Dep, Act.put, List.setIfInBounds_toArray, List.set_cons_zero, List.set_cons_succ]
            rintro x147 ⟨V147, rfl, hb147⟩
            rintro x149 ⟨V149, rfl, hb149⟩
            intro K hK
            go_simp
            refine hK _ _ ?_ (Below.refl _ _)
            simp only [relL, List.getElem?_cons_zero, List.getElem?_cons_succ, eqV]
            exact rfl
          refine FlowR.step ?_ ?_
          · intro V hV
            simp only [Dep, Act.put, List.setIfInBounds_toArray, List.set_cons_zero, List.set_cons_succ]
            rintro x150 ⟨V150, rfl, hb150⟩
            intro K hK
            go_simp
            go_at_call 39
            refine (cG1.out V).mono ?_
            rintro e w9 ⟨rfl, rfl⟩
            refine hK _ _ ?_ (Below.refl _ _)
            simp only [relL, List.getElem?_cons_zero, List.getElem?_cons_succ, eqV]
            exact rfl
          refine FlowR.step ?_ ?_
          · intro V hV
            simp only [Dep, Act.put, List.setIfInBounds_toArray, List.set_cons_zero, List.set_cons_succ]
            intro K hK
            go_simp
            refine hK _ _ ?_ (Below.refl _ _)
            simp only [relL, List.getElem?_cons_zero, List.getElem?_cons_succ, eqV]
            exact rfl
          refine FlowR.step ?_ ?_
          · intro V hV
            simp only [Dep, Act.put, List.setIfInBounds_toArray, List.set_cons_zero, List.set_cons_succ]
            intro K hK
            go_simp
            refine hK _ _ ?_ (Below.refl _ _)
            simp only [relL, List.getElem?_cons_zero, List.getElem?_cons_succ, eqV]
            exact rfl
          refine FlowR.step ?_ ?_
          · intro V hV
            simp only [Dep, Act.put, List.setIfInBounds_toArray, List.set_cons_zero, List.set_cons_succ]
            rintro x153 ⟨V153, rfl, hb153⟩
            intro K hK
            go_simp
            refine hK _ _ ?_ (Below.refl _ _)
            simp only [relL, List.getElem?_cons_zero, List.getElem?_cons_succ, eqV]
            exact rfl
          refine FlowR.step ?_ ?_
          · intro V hV
            simp only [Dep, Act.put, List.setIfInBounds_toArray, List.set_cons_zero, List.set_cons_succ]
            rintro x152 ⟨V152, rfl, hb152⟩
            rintro x154 ⟨V154, rfl, hb154⟩
            intro K hK
            go_simp
            refine hK _ _ ?_ (Below.refl _ _)
            simp only [relL, List.getElem?_cons_zero, List.getElem?_cons_succ, eqV]
            exact rfl
          refine FlowR.step ?_ ?_
          · intro V hV
            simp only [Dep, Act.put, List.setIfInBounds_toArray, List.set_cons_zero, List.set_cons_succ]
            rintro x155 ⟨V155, rfl, hb155⟩
            intro K hK
            go_simp
            go_at_call 39
            refine (cG3.out V).mono ?_
            rintro e w9 ⟨rfl, rfl⟩
            refine hK _ _ ?_ (Below.refl _ _)
            simp only [relL, List.getElem?_cons_zero, List.getElem?_cons_succ, eqV]
            exact rfl
          refine FlowR.step ?_ ?_
          · intro V hV
            simp only [Dep, Act.put, List.setIfInBounds_toArray, List.set_cons_zero, List.set_cons_succ]
            rintro x146 ⟨V146, rfl, hb146⟩
            rintro x151 ⟨V151, rfl, hb151⟩
            rintro x156 ⟨V156, rfl, hb156⟩
            intro K hK
            go_simp
            refine hK _ _ ?_ (Below.refl _ _)
            simp only [relL, List.getElem?_cons_zero, List.getElem?_cons_succ, eqV]
            exact rfl
          refine FlowR.step ?_ ?_
          · intro V hV
            simp only [Dep, Act.put, List.setIfInBounds_toArray, List.set_cons_zero, List.set_cons_succ]
            intro K hK
            go_simp
            exact hK _ _ (ptr_at hV) (below1 _ _)
          refine FlowR.last ?_
          intro V hV
          simp only [Dep, Act.put, List.setIfInBounds_toArray, List.set_cons_zero, List.set_cons_succ]
          rintro x143 ⟨V143, rfl, hb143⟩
          rintro x144 ⟨V144, rfl, hb144⟩
          rintro x145 ⟨V145, rfl, hb145⟩
          rintro x146 ⟨V146, rfl, hb146⟩
          rintro x147 ⟨V147, rfl, hb147⟩
          rintro x148 ⟨V148, rfl, hb148⟩
          rintro x149 ⟨V149, rfl, hb149⟩
          rintro x150 ⟨V150, rfl, hb150⟩
          rintro x151 ⟨V151, rfl, hb151⟩
          rintro x152 ⟨V152, rfl, hb152⟩
          rintro x153 ⟨V153, rfl, hb153⟩
          rintro x154 ⟨V154, rfl, hb154⟩
          rintro x155 ⟨V155, rfl, hb155⟩
          rintro x156 ⟨V156, rfl, hb156⟩
          rintro x157 ⟨V157, rfl, hb157⟩
          rintro x15 ⟨V15, ⟨W9, rfl, rfl, hW9⟩, hb15⟩
          intro K hK
          obtain ⟨z0, g0⟩ := made_cells hb15 0 _ rfl
          obtain ⟨z1, g1⟩ := made_cells hb15 1 _ rfl
          obtain ⟨z2, g2⟩ := made_cells hb15 2 _ rfl
          obtain ⟨hB2, hC2⟩ := stored hb15 hW9 [.int .i64 bz, .int .u16 c1, .int .u16 c3] rfl
          simp only [setAll] at hB2 hC2
          go_simp
          refine hK _ _ ?_
          clear hK K z0 z1 z2 g0 g1 g2
          have HW9 := Lib.hid hW9.size
          have HFr : Hid (∀ j, (((V.setCell ⟨W9.heap.size, 0, none⟩ (.int .i64 bz)).setCell ⟨W9.heap.size, 1, none⟩ (.int .u16 c1)).setCell ⟨W9.heap.size, 2, none⟩ (.int .u16 c3)).frozen? ⟨W9.heap.size, j, none⟩ = false) := Lib.hid fun j => by rw [frozen_set', frozen_set', frozen_set']; rw [hb15.frozen (p := ⟨W9.heap.size, j, none⟩) (by simp)]; simp [go_sem]
          have HC2 := Lib.hid hC2
          have HB2 := Lib.hid hB2
          clear hC2 hB2 hW9 hb15 hV hb143 V143 hb144 V144 hb145 V145 hb146 V146 hb147 V147 hb148 V148 hb149 V149 hb150 V150 hb151 V151 hb152 V152 hb153 V153 hb154 V154 hb155 V155 hb156 V156 hb157 V157 cG1 cG3 hx0 hx0a y0 y1 y2 y3 y4 y5 y6 y7 y8 y8b y9
          generalize ((V.setCell ⟨W9.heap.size, 0, none⟩ (.int .i64 bz)).setCell ⟨W9.heap.size, 1, none⟩ (.int .u16 c1)).setCell ⟨W9.heap.size, 2, none⟩ (.int .u16 c3) = W3b at *
          have hcell : W3b.cell? ⟨W9.heap.size, 0, none⟩ = some (.int .i64 bz) := HC2.out _ (Below.refl _ _) 0 _ rfl
          by_cases hbz : bz = 255
          · subst hbz
            have hfr := HFr.out 0
            have KOC : Hid (objAt s k = ⟨-1, c1, c3⟩) := Lib.hid (KOB.out.trans (by rw [if_pos rfl]))
            clear KOB
            have HM : Hid (NM w N (W3b.setCell ⟨W9.heap.size, 0, none⟩ (.int .i64 (-1))) (prt s (nB s) k 0) v1 (.slice q2 k e2) (.slice none 0 0)) := Lib.hid (KM.out.next (HB2.out.setCell (p := ⟨W9.heap.size, 0, none⟩) HW9.out _))
            have HO := Lib.hid (own_next HO2.out (HB2.out.setCell (p := ⟨W9.heap.size, 0, none⟩) HW9.out (.int .i64 (-1))))
            have HA := Lib.hid (HM.out.next (below1 (W3b.setCell ⟨W9.heap.size, 0, none⟩ (.int .i64 (-1))) (Obj.cells #[.int .i64 (-1), .int .u16 c1, .int .u16 c3] 39)))
            have HOA := Lib.hid (own_next HO.out (below1 (W3b.setCell ⟨W9.heap.size, 0, none⟩ (.int .i64 (-1))) (Obj.cells #[.int .i64 (-1), .int .u16 c1, .int .u16 c3] 39)))
            have c1c := HC2.out _ (Below.refl _ _) 1 _ rfl
            have c2c := HC2.out _ (Below.refl _ _) 2 _ rfl
            have i3 := HM.out.m.i3
            obtain ⟨hi39, hz39, hs39, hb39⟩ := HI39.out
            have A1 : ∀ (j : Nat) (u : Value), (ObjI.cells ⟨-1, c1, c3⟩)[j]? = some u → ((W3b.setCell ⟨W9.heap.size, 0, none⟩ (.int .i64 (-1))).alloc (Obj.cells #[.int .i64 (-1), .int .u16 c1, .int .u16 c3] 39)).cell? ((⟨W3b.heap.size, 0, none⟩ : Addr).add j) = some u := by
              intro j u hj
              have h := news_obj (w := (W3b.setCell ⟨W9.heap.size, 0, none⟩ (.int .i64 (-1)))) (t := 39) ⟨-1, c1, c3⟩ j u hj
              rwa [size_set] at h
            have A4 : k + 1 ≤ maxLen := len_le hlt n1
            have A5 : (k + 1) * 16 ≤ 140737488355328 := len_le16 hlt n1
            have A6 : N + 1 ≤ ((W3b.setCell ⟨W9.heap.size, 0, none⟩ (.int .i64 (-1))).alloc (Obj.cells #[.int .i64 (-1), .int .u16 c1, .int .u16 c3] 39)).heap.size := HA.out.m.hw
            have KA := Lib.hid (And.intro A1 (And.intro A4 (And.intro A5 A6)))
            clear A1 A4 A5 A6
            go_wp2_with (at_builtin; refine Hid.out ?_)
            refine Lib.hid ?_
            refine wpList_append_own _ rfl (.tmp 163) (.tmp 165) 27 rfl (N + 1) 39 i39 (.agg #[.int .i64 0, .int .u16 0, .int .u16 0]) 3 16 Try.underlying27 hi39 hz39 hs39 hb39 rfl (by decide) (.slice q2 k e2) _ _ rfl HOA.out ⟨W3b.heap.size, 0, none⟩ 1 1 (ObjI.cells ⟨-1, c1, c3⟩) rfl rfl KA.out.1 (one_obj ⟨-1, c1, c3⟩) KA.out.2.1 KA.out.2.2.1 KA.out.2.2.2 ?_
            intro v' w3 hown hg _
            obtain ⟨p', c', rfl, hpc⟩ := own_slice hown
            clear hpc
            have hC := HA.out.m.keep hg (fun j hj => (HOA.out.lt j hj).1)
            have HP := Lib.hid (HA.out.add2 KOC.out hown hg)
            clear i3 c1c c2c hcell KA hfr hown hg HA HOA HM HO hi39 hz39 hs39 hb39
            obtain ⟨i0, i1, i2, i3, i4, f0, f3, f4⟩ := hC
            clear i0 i1 i2 i4 f0 f4
            have i3b := HP.out.m.i3
            go_wp2_with fail
            refine (wobj_part s k w _ N v1 _ p' c' HP.out n4 (Nat.le_trans (Nat.succ_le_of_lt hlt) n1)).mono ?_
            rintro e w5 ⟨rfl, h5⟩
            have KM5 := Lib.hid (HP.out.next h5)
            clear h5 HP i3 i3b f3
            rcases (Bool.eq_false_or_eq_true (objWrong (nB s) (prevAt ((List.range (k + 1)).map (objAt s)) k) (objAt s k))) with hw | hw
            · rw [hw]
              have KR := Lib.hid KM5.out.r
              have KB := Lib.hid KM5.out.m.below
              have HBAD := Lib.hid (KST.out.bad hlt hw)
              clear hw
              have HE : Hid (readE s = ((m : Int), 37)) := Lib.hid ((readE_obj s HOK.out HZ.out (by simpa using HSB.out) (by rw [HBAD.out]; omega)).trans (by rw [HBAD.out, KMK.out]))
              obtain ⟨⟨c0, c1, c2, c3, c4⟩, f0, f1, f2, f3, f4⟩ := KR.out.cells
              obtain ⟨s0, s1, s2, s3, s4⟩ := KR.out.selfs
              go_wp2_with fail
              exact bodyPost_ret (v := .tuple #[.agg #[.slice none 0 0, .int .u16 0, .int .u16 0, .slice none 0 0, .slice none 0 0], .int .i64 ((m : Int)), .int .i64 37]) (by simp [results, Try.results58, go_sem, c0, c1, c2, c3, c4]) rfl (HR.out _ _ (readPost_bad HE.out (by decide) KB.out))
            rw [hw]
            have KST2 := Lib.hid (KST.out.next hlt hw)
            clear hw
            have x2 := HX2.out
            go_wp2_with fail
            go_roundw
            case rel => exact ⟨k + 1, .slice p' (k + 1) c', by omega, by go_num, KM5.out, KST2.out⟩
            case measure => simp [intOf]; omega
          · have hbf : (bz == 255) = false := by simpa using hbz
            have KOC : Hid (objAt s k = ⟨bz, c1, c3⟩) := Lib.hid (KOB.out.trans (by rw [if_neg hbz]))
            clear hbz
            clear KOB
            have HM : Hid (NM w N W3b (prt s (nB s) k 0) v1 (.slice q2 k e2) (.slice none 0 0)) := Lib.hid (KM.out.next HB2.out)
            have HO := Lib.hid (own_next HO2.out (HB2.out))
            have HA := Lib.hid (HM.out.next (below1 W3b (Obj.cells #[.int .i64 (bz), .int .u16 c1, .int .u16 c3] 39)))
            have HOA := Lib.hid (own_next HO.out (below1 W3b (Obj.cells #[.int .i64 (bz), .int .u16 c1, .int .u16 c3] 39)))
            have c1c := HC2.out _ (Below.refl _ _) 1 _ rfl
            have c2c := HC2.out _ (Below.refl _ _) 2 _ rfl
            have i3 := HM.out.m.i3
            obtain ⟨hi39, hz39, hs39, hb39⟩ := HI39.out
            have A1 : ∀ (j : Nat) (u : Value), (ObjI.cells ⟨bz, c1, c3⟩)[j]? = some u → (W3b.alloc (Obj.cells #[.int .i64 (bz), .int .u16 c1, .int .u16 c3] 39)).cell? ((⟨W3b.heap.size, 0, none⟩ : Addr).add j) = some u := by
              intro j u hj
              have h := news_obj (w := W3b) (t := 39) ⟨bz, c1, c3⟩ j u hj
              exact h
            have A4 : k + 1 ≤ maxLen := len_le hlt n1
            have A5 : (k + 1) * 16 ≤ 140737488355328 := len_le16 hlt n1
            have A6 : N + 1 ≤ (W3b.alloc (Obj.cells #[.int .i64 (bz), .int .u16 c1, .int .u16 c3] 39)).heap.size := HA.out.m.hw
            have KA := Lib.hid (And.intro A1 (And.intro A4 (And.intro A5 A6)))
            clear A1 A4 A5 A6
            go_wp2_with (at_builtin; refine Hid.out ?_)
            refine Lib.hid ?_
            refine wpList_append_own _ rfl (.tmp 163) (.tmp 165) 27 rfl (N + 1) 39 i39 (.agg #[.int .i64 0, .int .u16 0, .int .u16 0]) 3 16 Try.underlying27 hi39 hz39 hs39 hb39 rfl (by decide) (.slice q2 k e2) _ _ rfl HOA.out ⟨W3b.heap.size, 0, none⟩ 1 1 (ObjI.cells ⟨bz, c1, c3⟩) rfl rfl KA.out.1 (one_obj ⟨bz, c1, c3⟩) KA.out.2.1 KA.out.2.2.1 KA.out.2.2.2 ?_
            intro v' w3 hown hg _
            obtain ⟨p', c', rfl, hpc⟩ := own_slice hown
            clear hpc
            have hC := HA.out.m.keep hg (fun j hj => (HOA.out.lt j hj).1)
            have HP := Lib.hid (HA.out.add2 KOC.out hown hg)
            clear i3 c1c c2c hcell KA hbf hown hg HA HOA HM HO hi39 hz39 hs39 hb39
            obtain ⟨i0, i1, i2, i3, i4, f0, f3, f4⟩ := hC
            clear i0 i1 i2 i4 f0 f4
            have i3b := HP.out.m.i3
            go_wp2_with fail
            refine (wobj_part s k w _ N v1 _ p' c' HP.out n4 (Nat.le_trans (Nat.succ_le_of_lt hlt) n1)).mono ?_
            rintro e w5 ⟨rfl, h5⟩
            have KM5 := Lib.hid (HP.out.next h5)
            clear h5 HP i3 i3b f3
            rcases (Bool.eq_false_or_eq_true (objWrong (nB s) (prevAt ((List.range (k + 1)).map (objAt s)) k) (objAt s k))) with hw | hw
            · rw [hw]
              have KR := Lib.hid KM5.out.r
              have KB := Lib.hid KM5.out.m.below
              have HBAD := Lib.hid (KST.out.bad hlt hw)
              clear hw
              have HE : Hid (readE s = ((m : Int), 37)) := Lib.hid ((readE_obj s HOK.out HZ.out (by simpa using HSB.out) (by rw [HBAD.out]; omega)).trans (by rw [HBAD.out, KMK.out]))
              obtain ⟨⟨c0, c1, c2, c3, c4⟩, f0, f1, f2, f3, f4⟩ := KR.out.cells
              obtain ⟨s0, s1, s2, s3, s4⟩ := KR.out.selfs
              go_wp2_with fail
              exact bodyPost_ret (v := .tuple #[.agg #[.slice none 0 0, .int .u16 0, .int .u16 0, .slice none 0 0, .slice none 0 0], .int .i64 ((m : Int)), .int .i64 37]) (by simp [results, Try.results58, go_sem, c0, c1, c2, c3, c4]) rfl (HR.out _ _ (readPost_bad HE.out (by decide) KB.out))
            rw [hw]
            have KST2 := Lib.hid (KST.out.next hlt hw)
            clear hw
            have x2 := HX2.out
            go_wp2_with fail
            go_roundw
            case rel => exact ⟨k + 1, .slice p' (k + 1) c', by omega, by go_num, KM5.out, KST2.out⟩
            case measure => simp [intOf]; omega
        · obtain rfl : k = nO s := by omega
          have hb0 : decide ((nO s : Int) < (nO s : Int)) = false := decide_eq_false (by omega)
          clear hlt hk
          have KO := Lib.hid KST.out.done
          clear KST
          go_wp2_with fail
          clear hb0
          obtain ⟨wo2, rfl⟩ : ∃ wo2 : World, wo2 = wr := ⟨_, rfl⟩
          go_loopw [17] (fun i wr => ∃ (k : Nat) (v3 : Value), k ≤ nR s ∧ i = .int .i64 k ∧ NM w N wr (prt s (nB s) (nO s) k) v1 v2 v3 ∧ RStep s k) (fun i _ => nR s - (intOf i).toNat)
          case atStart => exact ⟨0, .slice none 0 0, Nat.zero_le _, rfl, KM.out, RStep.start s⟩
          case round =>
            clear KM
            obtain ⟨k, v3, hk, rfl, hm, hst⟩ := hrel
            have KM := Lib.hid hm
            have KST := Lib.hid hst
            clear hm hst
            by_cases hlt : k < nR s
            · have hb0 : decide ((k : Int) < (nR s : Int)) = true := decide_eq_true (by omega)
              obtain ⟨q1, e1, rfl, hO1⟩ := KM.out.own1
              clear hO1
              obtain ⟨q2, e2, rfl, hO2⟩ := KM.out.own2
              clear hO2
              obtain ⟨q3, e3, rfl, hO3⟩ := KM.out.own3
              have HO3 := Lib.hid hO3
              have hd := KD.out
              have x0 : IntKind.i64.wrap (3 * (k : Int)) = 3 * (k : Int) := IntWalk.i64_in _ (by omega)
              have x1 : IntKind.i64.wrap ((firstA s : Int) + 3 * (k : Int)) = (firstA s : Int) + 3 * (k : Int) := IntWalk.i64_in _ (by omega)
              have x2 : IntKind.i64.wrap ((k : Int) + 1) = (k : Int) + 1 := IntWalk.i64_in _ (by omega)
              have x9 : firstA s + 3 * k + 3 ≤ s.size := by have := HZ.out; omega
              have HX2 := Lib.hid x2
              clear hd hO3 x2
              go_wp2_with fail
              clear hb0 x0 x1
              have hmk : (firstA s : Int) + 3 * (k : Int) = ((firstA s + 3 * k : Nat) : Int) := by push_cast; rfl
              rw [hmk]
              have KMK := Lib.hid hmk
              have hob : relAt s k = ⟨byteI s (firstA s + 3 * k), wordAt s (firstA s + 3 * k + 1)⟩ := rfl
              have KOB := Lib.hid hob
              clear hmk hob
              generalize firstA s + 3 * k = m at *
              have y9 : m < s.size := by omega
              have y0 : (0 : Int) ≤ (m : Int) := by omega
              have y1 : (m : Int) < (s.size : Int) := by omega
              have y2 : IntKind.i64.wrap ((m : Int) + 1) = (m : Int) + 1 := IntWalk.i64_in _ (by omega)
              have y4 : (0 : Int) ≤ (m : Int) + 1 := by omega
              have y6 : (m : Int) + 1 ≤ (s.size : Int) := by omega
              have y8 : ((m : Int) + 1).toNat = m + 1 := by omega
              have bb := byteI_bd s m
              have hx0a : ((s[m]'y9).toNat : Int) = byteI s m := byteI_at s m y9
              have hx0 : IntKind.i64.wrap (byteI s m) = byteI s m := IntWalk.i64_in _ (by omega)
              generalize byteI s m = bz at *
              obtain ⟨c1, hc1⟩ : ∃ c, c = wordAt s (m + 1) := ⟨_, rfl⟩
              have cG1 : Hid (∀ V : World, Calls Try.prog 39 #[.string (s.extract (m + 1) s.size)] V fun e w' => e = .returned (.int .u16 c1) ∧ V = w') := Lib.hid fun V => by rw [hc1]; exact rgetk_any s _ V HS.out
              rw [← hc1] at KOB
              clear hc1 x9
              refine' wp_region_flowS 13 [13, 15] [[], [(185, 0)], [], [], [(187, 2), (188, 3)], [(189, 4)], [], [], [(192, 7)], [(191, 6), (193, 8)], [(194, 9)], [(190, 5), (195, 10)], [(196, 11)], [(186, 1), (197, 12)], [], [(199, 14), (198, 13)]] [(185, 0), (186, 1), (187, 2), (188, 3), (189, 4), (190, 5), (191, 6), (192, 7), (193, 8), (194, 9), (195, 10), (196, 11), (197, 12), (199, 14)] (relL [eqV _, eqV _, eqV _, eqV _, eqV _, eqV _, eqV _, eqV _, eqV _, eqV _, eqV _, eqV _, NewR (.int .i64 bz) (.int .u16 c1) 41, fun v V => True, eqV _, fun v V => True]) [(13, _), (15, _)] (by kernel_rfl) (by kernel_rfl) rfl ?_ ?_
              rotate_left 13
              · refine FlowS.mem (by decide) ?_ ?_
                · intro V hV
                  simp only [Dep, Act.put, List.setIfInBounds_toArray, List.set_cons_zero, List.set_cons_succ]
                  intro K hK
                  go_simp
                  refine hK _ _ ?_ (Below.refl _ _)
                  simp only [relL, eqV]
                  exact rfl
                refine FlowS.mem (by decide) ?_ ?_
                · intro V hV
                  simp only [Dep, Act.put, List.setIfInBounds_toArray, List.set_cons_zero, List.set_cons_succ]
                  rintro x185 ⟨V185, rfl, hb185⟩
                  intro K hK
                  have i4 := (KM.out.next hV).m.i4
                  go_simp
                  refine hK _ _ ?_ (Below.refl _ _)
                  simp only [relL, eqV]
                  exact rfl
                refine FlowS.mem (by decide) ?_ ?_
                · intro V hV
                  simp only [Dep, Act.put, List.setIfInBounds_toArray, List.set_cons_zero, List.set_cons_succ]
                  intro K hK
                  go_simp
                  refine hK _ _ ?_ (Below.refl _ _)
                  simp only [relL, eqV]
                  exact rfl
                refine FlowS.mem (by decide) ?_ ?_
                · intro V hV
                  simp only [Dep, Act.put, List.setIfInBounds_toArray, List.set_cons_zero, List.set_cons_succ]
                  intro K hK
                  go_simp
                  refine hK _ _ ?_ (Below.refl _ _)
                  simp only [relL, eqV]
                  exact rfl
                refine FlowS.mem (by decide) ?_ ?_
                · intro V hV
                  simp only [Dep, Act.put, List.setIfInBounds_toArray, List.set_cons_zero, List.set_cons_succ]
                  rintro x187 ⟨V187, rfl, hb187⟩
                  rintro x188 ⟨V188, rfl, hb188⟩
                  intro K hK
                  go_simp
                  refine hK _ _ ?_ (Below.refl _ _)
                  simp only [relL, eqV]
                  exact rfl
                refine FlowS.mem (by decide) ?_ ?_
                · intro V hV
                  simp only [Dep, Act.put, List.setIfInBounds_toArray, List.set_cons_zero, List.set_cons_succ]
                  rintro x189 ⟨V189, rfl, hb189⟩
                  intro K hK
                  go_simp
                  refine hK _ _ ?_ (Below.refl _ _)
                  simp only [relL, eqV]
                  exact rfl
                refine FlowS.mem (by decide) ?_ ?_
                · intro V hV
                  simp only [Dep, Act.put, List.setIfInBounds_toArray, List.set_cons_zero, List.set_cons_succ]
                  intro K hK
                  go_simp
                  refine hK _ _ ?_ (Below.refl _ _)
                  simp only [relL, eqV]
                  exact rfl
                refine FlowS.mem (by decide) ?_ ?_
                · intro V hV
                  simp only [Dep, Act.put, List.setIfInBounds_toArray, List.set_cons_zero, List.set_cons_succ]
                  intro K hK
                  go_simp
                  refine hK _ _ ?_ (Below.refl _ _)
                  simp only [relL, eqV]
                  exact rfl
                refine FlowS.mem (by decide) ?_ ?_
                · intro V hV
                  simp only [Dep, Act.put, List.setIfInBounds_toArray, List.set_cons_zero, List.set_cons_succ]
                  rintro x192 ⟨V192, rfl, hb192⟩
                  intro K hK
                  go_simp
                  refine hK _ _ ?_ (Below.refl _ _)
                  simp only [relL, eqV]
                  exact rfl
                refine FlowS.mem (by decide) ?_ ?_
                · intro V hV
                  simp only [Dep, Act.put, List.setIfInBounds_toArray, List.set_cons_zero, List.set_cons_succ]
                  rintro x191 ⟨V191, rfl, hb191⟩
                  rintro x193 ⟨V193, rfl, hb193⟩
                  intro K hK
                  go_simp
                  refine hK _ _ ?_ (Below.refl _ _)
                  simp only [relL, eqV]
                  exact rfl
                refine FlowS.mem (by decide) ?_ ?_
                · intro V hV
                  simp only [Dep, Act.put, List.setIfInBounds_toArray, List.set_cons_zero, List.set_cons_succ]
                  rintro x194 ⟨V194, rfl, hb194⟩
                  intro K hK
                  go_simp
                  go_at_call 39
                  refine (cG1.out V).mono ?_
                  rintro e w9 ⟨rfl, rfl⟩
                  refine hK _ _ ?_ (Below.refl _ _)
                  simp only [relL, eqV]
                  exact rfl
                refine FlowS.mem (by decide) ?_ ?_
                · intro V hV
                  simp only [Dep, Act.put, List.setIfInBounds_toArray, List.set_cons_zero, List.set_cons_succ]
                  rintro x190 ⟨V190, rfl, hb190⟩
                  rintro x195 ⟨V195, rfl, hb195⟩
                  intro K hK
                  go_simp
                  refine hK _ _ ?_ (Below.refl _ _)
                  simp only [relL, eqV]
                  exact rfl
                refine FlowS.mem (by decide) ?_ ?_
                · intro V hV
                  simp only [Dep, Act.put, List.setIfInBounds_toArray, List.set_cons_zero, List.set_cons_succ]
                  rintro x196 ⟨V196, rfl, hb196⟩
                  intro K hK
                  go_simp
                  exact hK _ _ ⟨V, rfl, rfl⟩ (below1 _ _)
                refine FlowS.store (by decide) rfl ?_
                refine FlowS.val (by decide) _ (fun _ _ => Iff.rfl) ?_ ?_
                · simp only [DepP, Act.put, List.setIfInBounds_toArray, List.set_cons_zero, List.set_cons_succ]
                  intro V K hK
                  go_simp
                  exact hK
                refine FlowS.store (by decide) rfl ?_
                exact FlowS.nil
              · intro V hV
                simp only [Dep, Act.put, List.setIfInBounds_toArray, List.set_cons_zero, List.set_cons_succ]
                rintro x185 ⟨V185, rfl, hb185⟩
                rintro x186 ⟨V186, rfl, hb186⟩
                rintro x187 ⟨V187, rfl, hb187⟩
                rintro x188 ⟨V188, rfl, hb188⟩
                rintro x189 ⟨V189, rfl, hb189⟩
                rintro x190 ⟨V190, rfl, hb190⟩
                rintro x191 ⟨V191, rfl, hb191⟩
                rintro x192 ⟨V192, rfl, hb192⟩
                rintro x193 ⟨V193, rfl, hb193⟩
                rintro x194 ⟨V194, rfl, hb194⟩
                rintro x195 ⟨V195, rfl, hb195⟩
                rintro x196 ⟨V196, rfl, hb196⟩
                rintro x197 ⟨V197, ⟨W9, rfl, rfl⟩, hb197⟩
                rintro x199 ⟨V199, rfl, hb199⟩
                have HM := Lib.hid (KM.out.next hV)
                have HO := Lib.hid (own_next HO3.out hV)
                have i4 := HM.out.m.i4
                intro K1 hK1
                obtain ⟨hi41, hz41, hs41, hb41⟩ := HI41.out
                refine (if_pos (by rfl)).mpr ?_
                refine wp_append_lies _ _ _ _ rfl (N + 1) 41 i41 (.agg #[.int .i64 0, .int .u16 0]) 2 16 Try.underlying28 hi41 hz41 hs41 hb41 rfl (by decide) _ _ _ rfl HO.out ⟨W9.heap.size, 0, none⟩ 1 1 (RelI.cells ⟨bz, c1⟩) rfl rfl (news_at hb197 _ rfl) (one_rel _) (by decide) (by unfold maxLen; omega) (by omega) (by have := HM.out.m.hw; omega) _ rfl ?_
                intro g cap w3 hown hg _ _
                refine hK1 _ _ ?_
                simp only [Act.put, List.setIfInBounds_toArray, List.set_cons_zero, List.set_cons_succ]
                clear hK1 K1 hi41 hz41 hs41 hb41 i4
                have HP := Lib.hid (HM.out.add3 KOB.out hown hg)
                have hb3 : Below (N + 1) V w3 := (Below.refl _ _).grown hg HM.out.m.hw (fun j e => (HO.out.lt j e).1)
                have i4 := (hb3.cell (p := ⟨N, 4, none⟩) (Nat.lt_succ_self _)).trans HM.out.m.i4
                have f4 := (hb3.frozen (p := ⟨N, 4, none⟩) (Nat.lt_succ_self _)).trans HM.out.m.f4
                clear hb3 hown hg HM HO hx0 hx0a y0 y1 y2 y4 y6 y8 y9 cG1
                intro K1 hK1
                go_simp
                refine hK1 undef _ ?_
                clear hK1 K1 i4 f4
                unfold TailS
                have j0 := HP.out.m.i0
                have j3 := HP.out.m.i3
                have j4 := HP.out.m.i4
                go_wp2_with fail
                clear j0 j3 j4
                refine (wrel_part s k w _ N q1 e1 q2 e2 _ cap HP.out n4 n1 (Nat.le_trans (Nat.succ_le_of_lt hlt) n2) (Nat.le_trans (Nat.le_add_right _ _) hz1)).mono ?_
                rintro e w5 ⟨rfl, h5⟩
                have KM5 := Lib.hid (HP.out.next h5)
                clear h5 HP
                rcases (Bool.eq_false_or_eq_true (relWrong (imgOf s).banks (imgOf s).data (prevAt ((List.range (k + 1)).map (relAt s)) k) (relAt s k))) with hw | hw
                · rw [hw]
                  have KR := Lib.hid KM5.out.r
                  have KB := Lib.hid KM5.out.m.below
                  have HBAD := Lib.hid (KST.out.bad hlt hw)
                  clear hw
                  have HE : Hid (readE s = ((m : Int), 37)) := Lib.hid ((readE_rel s HOK.out HZ.out (by simpa using HSB.out) (by rw [KO.out]; omega) (by rw [HBAD.out]; omega)).trans (by rw [HBAD.out, KMK.out]))
                  obtain ⟨⟨c0, c1, c2, c3, c4⟩, f0, f1, f2, f3, f4⟩ := KR.out.cells
                  obtain ⟨s0, s1, s2, s3, s4⟩ := KR.out.selfs
                  go_wp2_with fail
                  exact bodyPost_ret (v := .tuple #[.agg #[.slice none 0 0, .int .u16 0, .int .u16 0, .slice none 0 0, .slice none 0 0], .int .i64 ((m : Int)), .int .i64 37]) (by simp [results, Try.results58, go_sem, c0, c1, c2, c3, c4]) rfl (HR.out _ _ (readPost_bad HE.out (by decide) KB.out))
                rw [hw]
                have KST2 := Lib.hid (KST.out.next hlt hw)
                clear hw
                have x2 := HX2.out
                go_wp2_with fail
                go_roundw
                case rel => exact ⟨k + 1, .slice (some ⟨g, 0, none⟩) (k + 1) cap, by omega, by go_num, KM5.out, KST2.out⟩
                case measure => simp [intOf]; omega
            · obtain rfl : k = nR s := by omega
              have hb0 : decide ((nR s : Int) < (nR s : Int)) = false := decide_eq_false (by omega)
              clear hlt hk
              have KO2 := Lib.hid KST.out.done
              clear KST
              have HE := Lib.hid (readE_ok s HOK.out HZ.out (by simpa using HSB.out) (by rw [KO.out]; omega) (by rw [KO2.out]; omega))
              obtain ⟨p1, c1, p2, c2, p3, c3, rfl, rfl, rfl, hI⟩ := KM.out.img n4 n1 n2
              have HI := Lib.hid hI
              clear hI
              have e0 := KM.out.m.i0
              have e1 : wr.cell? ⟨N, 1, none⟩ = some (.int .u16 (wordAt s 6)) := KM.out.m.i1
              have e2 : wr.cell? ⟨N, 2, none⟩ = some (.int .u16 (wordAt s 8)) := KM.out.m.i2
              have e3 := KM.out.m.i3
              have e4 := KM.out.m.i4
              obtain ⟨⟨c0, c1', c2', c3', c4⟩, f0, f1, f2, f3, f4⟩ := KM.out.r.cells
              have hwr := KM.out.r
              have HS5 := Lib.hid (set5 wr w.heap.size (.slice p1 (nB s) c1) (.int .u16 (wordAt s 6)) (.int .u16 (wordAt s 8)) (.slice p2 (nO s) c2) (.slice p3 (nR s) c3) _ _ _ _ _ c0 c1' c2' c3' c4)
              have HU := Lib.hid (img_other (B := w.heap.size) [.slice p1 (nB s) c1, .int .u16 (wordAt s 6), .int .u16 (wordAt s 8), .slice p2 (nO s) c2, .slice p3 (nR s) c3] hwr)
              have HBU := Lib.hid (setAll_below (Nat.le_refl w.heap.size) [.slice p1 (nB s) c1, .int .u16 (wordAt s 6), .int .u16 (wordAt s 8), .slice p2 (nO s) c2, .slice p3 (nR s) c3] 0 wr KM.out.m.below)
              simp only [setAll] at HU HBU
              clear hwr
              go_wp2_with fail
              obtain ⟨x0, x1, x2, x3, x4⟩ := HS5.out
              clear c0 c1' c2' c3' c4 f0 f1 f2 f3 f4 e0 e1 e2 e3 e4 hb0
              exact bodyPost_ret (v := .tuple #[.agg #[.slice p1 (nB s) c1, .int .u16 (wordAt s 6), .int .u16 (wordAt s 8), .slice p2 (nO s) c2, .slice p3 (nR s) c3], .int .i64 0, .int .i64 0]) (by simp [results, Try.results58, go_sem, x0, x1, x2, x3, x4]) rfl (HR.out _ _ (ReadPost_ok KM.out n4 n1 n2 HE.out HBU.out (fun a b c h => HU.out a b c _ h)))
end Go.Proofs.Ytgdiaaoekkdibaa
