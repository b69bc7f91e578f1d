/- Same: of two states made normal. -/
import Derived.Test.YtieaicdihingkaaHK
import Derived.Test.YtieaicdihingkaaS0
namespace Go.Proofs.Ytieaicdihingkaa
set_option linter.unusedVariables false
set_option linter.unusedSimpArgs false
open Go.RowKit
theorem eql39 (m : Mach) (W : World) : (binOp .eql 39 (.agg (stC m)) (.agg (stC m))).run Try.prog W = .ok (.bool true) W := by
 obtain ⟨i, hi⟩ : ∃ i, Try.prog.info? 22 = some i := by
  have := info22
  cases h : Try.prog.info? 22 with
  | none => rw [h] at this; cases this
  | some i => exact ⟨i, rfl⟩
 have h37 : ∀ d xs ys, (Op.equalIn (d + 1) 37 (.agg xs) (.agg ys)).run Try.prog W = (Op.eqItems d 22 1 xs ys [0, 1, 2, 3, 4, 5, 6, 7]).run Try.prog W := fun d xs ys => by
  rw [run_equalIn_array W d _ _ Try.underlying37 hi, show Try.prog.cellsOf 22 = 1 by kernel_rfl, show List.range 8 = [0, 1, 2, 3, 4, 5, 6, 7] from rfl]
 rw [run_eql_struct, run_equalIn_agg W 9999 39 _ _ fields39 stood39]
 have hf : (Try.prog.fieldsOf 39).toList = (match Try.prog.underlying 39 with | some (.struct f) => f.toList | _ => []) := by kernel_rfl
 rw [hf, Try.underlying39]
 unfold stC
 simp [Op.eqFields, go_sem, h37, Op.eqItems]
set_option maxRecDepth 20000 in
set_option maxHeartbeats 8000000 in
theorem Same_true {w : World} {ma mb : Mach} {Sa Sb : ByteArray} {la lb : List Int} {psa poa psb pob : Option Addr} (ha : NormIn w emptyE ma Sa la psa poa) (hb : NormIn w emptyE mb Sb lb psb pob) (csa coa csb cob : Nat) (hca : la.length ≤ csa) (hcb : lb.length ≤ csb) (he : normM ma Sa la = normM mb Sb lb) (hos : ma.out.length ≤ 1000000000000) :
  Calls Try.prog 22 #[.agg (snC ma Sa (.slice psa la.length csa) (.slice poa ma.out.length coa)), .agg (snC mb Sb (.slice psb lb.length csb) (.slice pob mb.out.length cob))] w (EvPost w true) := by
 have HA := Lib.hid ha
 have HB := Lib.hid hb
 obtain ⟨X, hX⟩ : ∃ X, normM ma Sa la = X := ⟨_, rfl⟩
 have hY : normM mb Sb lb = X := he ▸ hX
 have HOS := Lib.hid hos
 have HX := Lib.hid hX
 have HY := Lib.hid hY
 have HCA := Lib.hid hca
 have HCB := Lib.hid hcb
 clear ha hb hX hY hca hcb he hos
 go_enter Try.func22, Try.ntmps22
 go_upto_region 1 with (fail)
 generalize e0 : (w.alloc _).alloc _ = W0
 have HA0 : Hid (W0.heap[w.heap.size]? = some (.cells (snC ma Sa (.slice psa la.length csa) (.slice poa ma.out.length coa)) 43 (0, 0))) := Lib.hid (e0 ▸ blk_mid1 w _ _)
 have HB0 : Hid (W0.heap[w.heap.size + 1]? = some (.cells (snC mb Sb (.slice psb lb.length csb) (.slice pob mb.out.length cob)) 43 (0, 0))) := Lib.hid (by
  have h9 := alloc_at (w.alloc (.cells (snC ma Sa (.slice psa la.length csa) (.slice poa ma.out.length coa)) 43)) (.cells (snC mb Sb (.slice psb lb.length csb) (.slice pob mb.out.length cob)) 43)
  rw [World.size_alloc] at h9
  rw [← e0]
  exact h9)
 have HW0 : Hid (Below w.heap.size w W0) := Lib.hid (e0 ▸ below_alloc (below1 w _) _)
 clear e0
 have HNA : Hid (∀ W, Below w.heap.size w W → Calls Try.prog 29 #[.agg #[.slice none 0 0, .int .u16 0, .int .u16 0, .slice none 0 0, .slice none 0 0], .agg #[.slice none 0 0, .slice none 0 0], .agg (snC ma Sa (.slice psa la.length csa) (.slice poa ma.out.length coa))] W (fun e w' => ∃ v, e = .returned v ∧ MR X v w' ∧ Below W.heap.size W w')) := Lib.hid fun W hW => by
  refine (normal_any (HA.out.next hW) csa coa HCA.out).mono ?_
  rintro e w' ⟨B, g, sv, ov, rfl, hb, hm⟩
  rw [HX.out] at hm
  exact ⟨_, rfl, ⟨B, g, _, sv, ov, rfl, hm⟩, hb⟩
 have HNB : Hid (∀ W, Below w.heap.size w W → Calls Try.prog 29 #[.agg #[.slice none 0 0, .int .u16 0, .int .u16 0, .slice none 0 0, .slice none 0 0], .agg #[.slice none 0 0, .slice none 0 0], .agg (snC mb Sb (.slice psb lb.length csb) (.slice pob mb.out.length cob))] W (fun e w' => ∃ v, e = .returned v ∧ MR X v w' ∧ Below W.heap.size W w')) := Lib.hid fun W hW => by
  refine (normal_any (HB.out.next hW) csb cob HCB.out).mono ?_
  rintro e w' ⟨B, g, sv, ov, rfl, hb, hm⟩
  rw [HY.out] at hm
  exact ⟨_, rfl, ⟨B, g, _, sv, ov, rfl, hm⟩, hb⟩
 refine wp_region_flowR [[], [], [], [(7, 0), (8, 1), (9, 2)], [], [], [], [(11, 4), (12, 5), (13, 6)], [(10, 3)], [(7, 0), (8, 1), (9, 2), (10, 3), (11, 4), (12, 5), (13, 6), (14, 7), (5, 8)]] (relL [eqV (.agg #[.slice none 0 0, .int .u16 0, .int .u16 0, .slice none 0 0, .slice none 0 0]), eqV (.agg #[.slice none 0 0, .slice none 0 0]), eqV (.agg (snC ma Sa (.slice psa la.length csa) (.slice poa ma.out.length coa))), MR X, eqV (.agg #[.slice none 0 0, .int .u16 0, .int .u16 0, .slice none 0 0, .slice none 0 0]), eqV (.agg #[.slice none 0 0, .slice none 0 0]), eqV (.agg (snC mb Sb (.slice psb lb.length csb) (.slice pob mb.out.length cob))), MR X, MR X]) (by kernel_rfl) (by kernel_rfl) ?_
 iterate 2
  refine FlowR.step ?_ ?_
  ·intro V hV
   simp only [Dep, lQ]
   intro K hK
   go_simp
   exact hK _ _ rfl (Below.refl _ _)
 refine FlowR.step ?_ ?_
 ·intro V hV
  simp only [Dep, lQ]
  intro K hK
  refine wp_load_row 43 _ rfl w.heap.size rfl (snC ma Sa (.slice psa la.length csa) (.slice poa ma.out.length coa)) (at_next hV HA0.out) Try.underlying43 info43 ?_
  exact hK _ _ rfl (Below.refl _ _)
 refine FlowR.step ?_ ?_
 ·intro V hV
  simp only [Dep, lQ]
  rintro x7 ⟨V7, rfl, hb7⟩
  rintro x8 ⟨V8, rfl, hb8⟩
  rintro x9 ⟨V9, rfl, hb9⟩
  intro K hK
  go_simp
  go_at_call 29
  refine (HNA.out _ (below_next HW0.out hV)).mono ?_
  rintro e w9 ⟨v9, rfl, hm9, h9⟩
  exact hK _ _ (hm9) h9
 iterate 2
  refine FlowR.step ?_ ?_
  ·intro V hV
   simp only [Dep, lQ]
   intro K hK
   go_simp
   exact hK _ _ rfl (Below.refl _ _)
 refine FlowR.step ?_ ?_
 ·intro V hV
  simp only [Dep, lQ]
  intro K hK
  refine wp_load_row 43 _ rfl (w.heap.size + 1) rfl (snC mb Sb (.slice psb lb.length csb) (.slice pob mb.out.length cob)) (at_next hV HB0.out) Try.underlying43 info43 ?_
  exact hK _ _ rfl (Below.refl _ _)
 refine FlowR.step ?_ ?_
 ·intro V hV
  simp only [Dep, lQ]
  rintro x11 ⟨V11, rfl, hb11⟩
  rintro x12 ⟨V12, rfl, hb12⟩
  rintro x13 ⟨V13, rfl, hb13⟩
  intro K hK
  go_simp
  go_at_call 29
  refine (HNB.out _ (below_next HW0.out hV)).mono ?_
  rintro e w9 ⟨v9, rfl, hm9, h9⟩
  exact hK _ _ (hm9) h9
 refine FlowR.step ?_ ?_
 ·intro V hV
  simp only [Dep, lQ]
  rintro x10 ⟨V10, hm10, hb10⟩
  intro K hK
  go_simp
  exact hK _ _ (MR.next hm10 hb10) (Below.refl _ _)
 refine FlowR.last ?_
 intro V hV
 simp only [Dep, lQ]
 rintro x7 ⟨V7, rfl, hb7⟩
 rintro x8 ⟨V8, rfl, hb8⟩
 rintro x9 ⟨V9, rfl, hb9⟩
 rintro x10 ⟨V10, hm10, hb10⟩
 rintro x11 ⟨V11, rfl, hb11⟩
 rintro x12 ⟨V12, rfl, hb12⟩
 rintro x13 ⟨V13, rfl, hb13⟩
 rintro x14 ⟨V14, hm14, hb14⟩
 rintro x5 ⟨V5, hm5, hb5⟩
 intro K hK
 go_simp
 refine hK _ _ ?_
 clear hK
 have hm14' := MR.next hm14 hb14
 have hm5' := MR.next hm5 hb5
 clear hm14 hm5 hm10 hb14 hb5 hb10
 obtain ⟨B1, g1, bs1, sv1, ov1, rfl, m1⟩ := hm5'
 obtain ⟨B2, g2, bs2, sv2, ov2, rfl, m2⟩ := hm14'
 obtain ⟨p1, c1, rfl, hs1⟩ := own_sliceS m1.st
 obtain ⟨q1, d1, rfl, ho1⟩ := own_sliceS m1.out
 obtain ⟨p2, c2, rfl, hs2⟩ := own_sliceS m2.st
 obtain ⟨q2, d2, rfl, ho2⟩ := own_sliceS m2.out
 have HM1 := Lib.hid m1
 have HM2 := Lib.hid m2
 have HSL : Hid (X.st.length ≤ 1000000000000) := Lib.hid (by
  rw [← HX.out]
  show (la.take 4096).length ≤ 1000000000000
  rw [List.length_take]
  omega)
 have HOL : Hid (X.out.length ≤ 1000000000000) := Lib.hid (by rw [← HX.out]; exact HOS.out)
 have HVW := Lib.hid (below_next HW0.out hV)
 have HEW : Hid (∀ W, Below V.heap.size V W → Calls Try.prog 42 #[.slice p1 X.st.length c1, .slice p2 X.st.length c2] W (EvPost W true)) := Lib.hid fun W hW => equal_words p1 p2 c1 c2 X.st X.st true (decide_eq_true rfl) W (hs1.kept hW) (hs2.kept hW) HSL.out HSL.out
 have HEE : Hid (∀ W, Below V.heap.size V W → Calls Try.prog 43 #[.slice q1 X.out.length d1, .slice q2 X.out.length d2] W (EvPost W true)) := Lib.hid fun W hW => equal_events q1 q2 d1 d2 X.out X.out true (decide_eq_true rfl) W (ho1.kept hW) (ho2.kept hW) HOL.out HOL.out
 have HCV1 : Hid (∀ W, Below V.heap.size V W → (convert 49 9 (.slice (some ⟨g1, 0, none⟩) 8192 8192)).run Try.prog W = .ok (.string (ramS X.ram)) W) := Lib.hid fun W hW => by
  have h := HM1.out.next hW
  exact ram_conv 8192 X.ram g1 W fun j hj => ⟨(h.ramC j hj).1, h.ok.ram j⟩
 have HCV2 : Hid (∀ W, Below V.heap.size V W → (convert 49 9 (.slice (some ⟨g2, 0, none⟩) 8192 8192)).run Try.prog W = .ok (.string (ramS X.ram)) W) := Lib.hid fun W hW => by
  have h := HM2.out.next hW
  exact ram_conv 8192 X.ram g2 W fun j hj => ⟨(h.ramC j hj).1, h.ok.ram j⟩
 obtain ⟨RS, hRS⟩ : ∃ RS, ramS X.ram = RS := ⟨_, rfl⟩
 rw [hRS] at HCV1 HCV2
 have HE39 : Hid (∀ W, (binOp .eql 39 (.agg (stC X)) (.agg (stC X))).run Try.prog W = .ok (.bool true) W) := Lib.hid (eql39 X)
 unfold stC at HE39
 have HG39 : Hid (Try.prog.eqGuardType Try.prog.depth 39 = false) := Lib.hid (by kernel_rfl)
 clear m1 m2 hs1 hs2 ho1 ho2 hRS
 go_upto_region 2 with (fail)
 refine wp_region_flow (S := fun W => Below V.heap.size V W) (by kernel_rfl) (by kernel_rfl) (Below.drew (Below.refl _ _)) ?_
 iterate 3
  apply Flow.step
  ·intro V2 K hS hK
   go_simp
   exact hK _ hS
  simp only [lQ]
 apply Flow.step
 ·intro V2 K hS hK
  obtain c7 := (HM1.out.next hS).cell 7 _ rfl
  obtain c8 := (HM1.out.next hS).cell 8 _ rfl
  obtain c9 := (HM1.out.next hS).cell 9 _ rfl
  obtain c10 := (HM1.out.next hS).cell 10 _ rfl
  obtain c11 := (HM1.out.next hS).cell 11 _ rfl
  obtain c12 := (HM1.out.next hS).cell 12 _ rfl
  obtain c13 := (HM1.out.next hS).cell 13 _ rfl
  obtain c14 := (HM1.out.next hS).cell 14 _ rfl
  obtain c15 := (HM1.out.next hS).cell 15 _ rfl
  obtain c16 := (HM1.out.next hS).cell 16 _ rfl
  obtain c17 := (HM1.out.next hS).cell 17 _ rfl
  obtain c18 := (HM1.out.next hS).cell 18 _ rfl
  obtain c19 := (HM1.out.next hS).cell 19 _ rfl
  obtain c20 := (HM1.out.next hS).cell 20 _ rfl
  obtain c21 := (HM1.out.next hS).cell 21 _ rfl
  obtain c22 := (HM1.out.next hS).cell 22 _ rfl
  go_simp
  exact hK _ hS
 iterate 3
  simp only [lQ]
  apply Flow.step
  ·intro V2 K hS hK
   go_simp
   exact hK _ hS
 simp only [lQ]
 apply Flow.step
 ·intro V2 K hS hK
  obtain c7 := (HM2.out.next hS).cell 7 _ rfl
  obtain c8 := (HM2.out.next hS).cell 8 _ rfl
  obtain c9 := (HM2.out.next hS).cell 9 _ rfl
  obtain c10 := (HM2.out.next hS).cell 10 _ rfl
  obtain c11 := (HM2.out.next hS).cell 11 _ rfl
  obtain c12 := (HM2.out.next hS).cell 12 _ rfl
  obtain c13 := (HM2.out.next hS).cell 13 _ rfl
  obtain c14 := (HM2.out.next hS).cell 14 _ rfl
  obtain c15 := (HM2.out.next hS).cell 15 _ rfl
  obtain c16 := (HM2.out.next hS).cell 16 _ rfl
  obtain c17 := (HM2.out.next hS).cell 17 _ rfl
  obtain c18 := (HM2.out.next hS).cell 18 _ rfl
  obtain c19 := (HM2.out.next hS).cell 19 _ rfl
  obtain c20 := (HM2.out.next hS).cell 20 _ rfl
  obtain c21 := (HM2.out.next hS).cell 21 _ rfl
  obtain c22 := (HM2.out.next hS).cell 22 _ rfl
  go_simp
  exact hK _ hS
 simp only [lQ]
 apply Flow.step
 ·intro V2 K hS hK
  obtain q39 := HE39.out
  obtain hg := HG39.out
  go_simp
  exact hK _ hS
 iterate 4
  simp only [lQ]
  apply Flow.step
  ·intro V2 K hS hK
   go_simp
   exact hK _ hS
 simp only [lQ]
 apply Flow.step
 ·intro V2 K hS hK
  obtain c23 := (HM1.out.next hS).cell 23 _ rfl
  go_simp
  exact hK _ hS
 simp only [lQ]
 apply Flow.step
 ·intro V2 K hS hK
  obtain hcv := HCV1.out _ hS
  go_simp
  exact hK _ hS
 iterate 3
  simp only [lQ]
  apply Flow.step
  ·intro V2 K hS hK
   go_simp
   exact hK _ hS
 simp only [lQ]
 apply Flow.step
 ·intro V2 K hS hK
  obtain c23 := (HM2.out.next hS).cell 23 _ rfl
  go_simp
  exact hK _ hS
 simp only [lQ]
 apply Flow.step
 ·intro V2 K hS hK
  obtain hcv := HCV2.out _ hS
  go_simp
  exact hK _ hS
 iterate 6
  simp only [lQ]
  apply Flow.step
  ·intro V2 K hS hK
   go_simp
   exact hK _ hS
 simp only [lQ]
 apply Flow.step
 ·intro V2 K hS hK
  obtain c24 := (HM1.out.next hS).cell 24 _ rfl
  go_simp
  exact hK _ hS
 iterate 3
  simp only [lQ]
  apply Flow.step
  ·intro V2 K hS hK
   go_simp
   exact hK _ hS
 simp only [lQ]
 apply Flow.step
 ·intro V2 K hS hK
  obtain c24 := (HM2.out.next hS).cell 24 _ rfl
  go_simp
  exact hK _ hS
 simp only [lQ]
 apply Flow.step
 ·intro V2 K hS hK
  go_simp
  go_at_call 42
  refine (HEW.out _ hS).mono ?_
  rintro e w9 ⟨rfl, h9⟩
  exact hK _ (below_next hS h9)
 iterate 5
  simp only [lQ]
  apply Flow.step
  ·intro V2 K hS hK
   go_simp
   exact hK _ hS
 simp only [lQ]
 apply Flow.step
 ·intro V2 K hS hK
  obtain c25 := (HM1.out.next hS).cell 25 _ rfl
  go_simp
  exact hK _ hS
 iterate 3
  simp only [lQ]
  apply Flow.step
  ·intro V2 K hS hK
   go_simp
   exact hK _ hS
 simp only [lQ]
 apply Flow.step
 ·intro V2 K hS hK
  obtain c25 := (HM2.out.next hS).cell 25 _ rfl
  go_simp
  exact hK _ hS
 simp only [lQ]
 apply Flow.step
 ·intro V2 K hS hK
  go_simp
  go_at_call 43
  refine (HEE.out _ hS).mono ?_
  rintro e w9 ⟨rfl, h9⟩
  exact hK _ (below_next hS h9)
 iterate 2
  simp only [lQ]
  apply Flow.step
  ·intro V2 K hS hK
   go_simp
   exact hK _ hS
 simp only [lQ]
 refine Flow.done ?_
 intro V2 hS
 have HBZ := Lib.hid (below_next HVW.out hS)
 go_wp2_with fail
 exact bodyPost_ret (v := .bool true) (by simp [results, Try.results22, go_sem]) rfl ⟨rfl, HBZ.out⟩
end Go.Proofs.Ytieaicdihingkaa
