/- The reference's Same on equal states. -/
import Derived.Test.YtieaicdihingkaaGreatR4
namespace Go.Proofs.YtieaicdihingkaaGreat
set_option linter.unusedVariables false
set_option linter.unusedSimpArgs false
open Go.RowKit
set_option maxRecDepth 20000 in
set_option maxHeartbeats 8000000 in
theorem same_ref {w : World} {ma mb : Mach} {Sa Sb : ByteArray} {la lb : List Int} {psa poa psb pob : Option Addr} {csa coa csb cob : Nat} (ha : LoadIn w ma Sa la psa poa csa coa) (hb : LoadIn w mb Sb lb psb pob csb cob) (he : normM ma Sa la = normM mb Sb lb) :
  Calls Tryz.prog 9 #[.agg (snC ma Sa (.slice psa la.length csa) (.slice poa ma.out.length coa)), .agg (snC mb Sb (.slice psb lb.length csb) (.slice pob mb.out.length cob))] w (EvPost w true) := by
 have HA := Lib.hid ha
 have HB := Lib.hid hb
 obtain ⟨X, hX⟩ : ∃ X, normM ma Sa la = X := ⟨_, rfl⟩
 have HXA := Lib.hid hX
 have HXB : Hid (normM mb Sb lb = X) := Lib.hid (he ▸ hX)
 have HNA : Hid (NormalIn X la.length ma.out) := Lib.hid (hX ▸ normalIn ha)
 have HNB : Hid (NormalIn X lb.length mb.out) := Lib.hid (HXB.out ▸ normalIn hb)
 obtain ⟨Y, hY⟩ : ∃ Y, ({ X with sp := (X.st.length : Int) } : Mach) = Y := ⟨_, rfl⟩
 have HY := Lib.hid hY
 clear ha hb he hX hY
 go_enter Tryz.func9, Tryz.ntmps9
 go_upto_region 1 with (fail)
 generalize e0 : (w.alloc _).alloc _ = W0
 have HA0 : Hid (W0.heap[w.heap.size]? = some (.cells (snC ma Sa (.slice psa la.length csa) (.slice poa ma.out.length coa)) 36 (0, 0))) := Lib.hid (e0 ▸ blk_mid1 w _ _)
 have HB0 : Hid (W0.heap[w.heap.size + 1]? = some (.cells (snC mb Sb (.slice psb lb.length csb) (.slice pob mb.out.length cob)) 36 (0, 0))) := Lib.hid (by
  have h9 := alloc_at (w.alloc (.cells (snC ma Sa (.slice psa la.length csa) (.slice poa ma.out.length coa)) 36)) (.cells (snC mb Sb (.slice psb lb.length csb) (.slice pob mb.out.length cob)) 36)
  rw [World.size_alloc] at h9
  rw [← e0]
  exact h9)
 have HW0 : Hid (Below w.heap.size w W0) := Lib.hid (e0 ▸ below_alloc (below1 w _) _)
 have HLA := Lib.hid (HA.out.next HW0.out)
 have HLB := Lib.hid (HB.out.next HW0.out)
 clear e0
 go_wp2_with (refine wpList_load_row 36 _ rfl rfl w.heap.size rfl (snC ma Sa (.slice psa la.length csa) (.slice poa ma.out.length coa)) HA0.out Tryz.underlying36 info43 ?_)
 refine (load_ref (E := emptyE) HLA.out).mono ?_
 rintro e w11 ⟨B1, g1, sv1, ov1, rfl, hb1, hr1, hz1, hy1⟩
 rw [HXA.out] at hr1
 have HR1 := Lib.hid hr1
 have HBB1 := Lib.hid hb1
 have HZ1 : Hid ((X.st.length = 0 → sv1 = .slice none 0 0) ∧ (X.out.length = 0 → ov1 = .slice none 0 0)) := Lib.hid ⟨fun e => hz1 (by rw [← HNA.out.lenE]; exact e), fun e => hy1 (by rw [← HNA.out.out]; exact e)⟩
 clear hb1 hr1 hz1 hy1
 go_wp2_with fail
 refine (snap_ref HR1.out HNA.out.ram HNA.out.len HNA.out.olen).mono ?_
 rintro e w21 ⟨C1, rfl, hs1, hsz1, hlow1⟩
 rw [HY.out] at hs1
 obtain ⟨p1, c1, q1, d1, rfl, hin1⟩ := hs1.cells
 have HIN1 := Lib.hid hin1
 have HD1 := Lib.hid (hlow1 W0 (Nat.le_refl _) HBB1.out)
 clear hs1 hsz1 hlow1 hin1
 go_wp2_with (refine wpList_store_row 36 _ _ rfl rfl w21.heap.size rfl (snC Y (ramS Y.ram) (.slice p1 Y.st.length c1) (.slice q1 Y.out.length d1)) rfl (alloc_at w21 _) info43 rfl (snC_one _ _ _ _ _ _ _ _) ?_; refine Hid.out ?_)
 generalize e31 : World.setRow _ _ _ = W31
 have HLW1 := Lib.hid (law_start HD1.out (snap_low HIN1.out HBB1.out.size) rfl e31)
 have HX31 := Lib.hid HLW1.out.x
 have HS31 := Lib.hid HLW1.out.snap
 have HD31 := Lib.hid HLW1.out.bel
 clear HLW1
 refine Lib.hid ?_
 clear e31
 go_wp2_with (refine wpList_load_row 36 _ rfl rfl (w.heap.size + 1) rfl (snC mb Sb (.slice psb lb.length csb) (.slice pob mb.out.length cob)) (at_next HD31.out HB0.out) Tryz.underlying36 info43 ?_)
 refine (load_ref (E := emptyE) (HLB.out.next HD31.out)).mono ?_
 rintro e w12 ⟨B2, g2, sv2, ov2, rfl, hb2, hr2, hz2, hy2⟩
 rw [HXB.out] at hr2
 have HR2 := Lib.hid hr2
 have HBB2 := Lib.hid hb2
 have HZ2 : Hid ((X.st.length = 0 → sv2 = .slice none 0 0) ∧ (X.out.length = 0 → ov2 = .slice none 0 0)) := Lib.hid ⟨fun e => hz2 (by rw [← HNB.out.lenE]; exact e), fun e => hy2 (by rw [← HNB.out.out]; exact e)⟩
 clear hb2 hr2 hz2 hy2
 go_wp2_with fail
 refine (snap_ref HR2.out HNB.out.ram HNB.out.len HNB.out.olen).mono ?_
 rintro e w22 ⟨C2, rfl, hs2, hsz2, hlow2⟩
 rw [HY.out] at hs2
 obtain ⟨p2, c2, q2, d2, rfl, hin2⟩ := hs2.cells
 have HIN2 := Lib.hid hin2
 have HD2 := Lib.hid (hlow2 W31 (Nat.le_refl _) HBB2.out)
 clear hs2 hsz2 hlow2 hin2
 go_wp2_with (refine wpList_store_row 36 _ _ rfl rfl w22.heap.size rfl (snC Y (ramS Y.ram) (.slice p2 Y.st.length c2) (.slice q2 Y.out.length d2)) rfl (alloc_at w22 _) info43 rfl (snC_one _ _ _ _ _ _ _ _) ?_; refine Hid.out ?_)
 generalize e32 : World.setRow _ _ _ = W32
 have HLW2 := Lib.hid (law_start HD2.out (snap_low HIN2.out HBB2.out.size) rfl e32)
 have HX32 := Lib.hid HLW2.out.x
 have HS32 := Lib.hid HLW2.out.snap
 have HD32 := Lib.hid HLW2.out.bel
 clear HLW2
 refine Lib.hid ?_
 clear e32
 have HX6 := Lib.hid (at_next HD32.out HX31.out)
 have HS6 := Lib.hid (HS31.out.next HD32.out)
 have HBZ := Lib.hid (below_next HW0.out (below_next HD31.out HD32.out))
 have HYL : Hid (Y.st.length ≤ 4096 ∧ Y.out.length ≤ 1000000000000) := Lib.hid (HY.out ▸ ⟨HNA.out.len, HNA.out.olen⟩)
 obtain ⟨RS, hRS⟩ : ∃ RS, ramS Y.ram = RS := ⟨_, rfl⟩
 rw [hRS] at HX6 HX32
 clear hRS HX31 HS31 HD31 HD32 HLA HLB HA0 HB0 HXA HXB HNA HNB HY HA HB HR1 HR2 HBB1 HBB2 HZ1 HZ2 HIN1 HIN2 HD1 HD2 HW0
 have x0 : W32.cell? ⟨w21.heap.size, 0, none⟩ = some (.int .u16 (Y.R 0)) := Lib.cell_of_heap HX6.out 0
 have y0 : W32.cell? ⟨w22.heap.size, 0, none⟩ = some (.int .u16 (Y.R 0)) := Lib.cell_of_heap HX32.out 0
 have x1 : W32.cell? ⟨w21.heap.size, 1, none⟩ = some (.int .u16 (Y.R 1)) := Lib.cell_of_heap HX6.out 1
 have y1 : W32.cell? ⟨w22.heap.size, 1, none⟩ = some (.int .u16 (Y.R 1)) := Lib.cell_of_heap HX32.out 1
 have x2 : W32.cell? ⟨w21.heap.size, 2, none⟩ = some (.int .u16 (Y.R 2)) := Lib.cell_of_heap HX6.out 2
 have y2 : W32.cell? ⟨w22.heap.size, 2, none⟩ = some (.int .u16 (Y.R 2)) := Lib.cell_of_heap HX32.out 2
 have x3 : W32.cell? ⟨w21.heap.size, 3, none⟩ = some (.int .u16 (Y.R 3)) := Lib.cell_of_heap HX6.out 3
 have y3 : W32.cell? ⟨w22.heap.size, 3, none⟩ = some (.int .u16 (Y.R 3)) := Lib.cell_of_heap HX32.out 3
 have x4 : W32.cell? ⟨w21.heap.size, 4, none⟩ = some (.int .u16 (Y.R 4)) := Lib.cell_of_heap HX6.out 4
 have y4 : W32.cell? ⟨w22.heap.size, 4, none⟩ = some (.int .u16 (Y.R 4)) := Lib.cell_of_heap HX32.out 4
 have x5 : W32.cell? ⟨w21.heap.size, 5, none⟩ = some (.int .u16 (Y.R 5)) := Lib.cell_of_heap HX6.out 5
 have y5 : W32.cell? ⟨w22.heap.size, 5, none⟩ = some (.int .u16 (Y.R 5)) := Lib.cell_of_heap HX32.out 5
 have x6 : W32.cell? ⟨w21.heap.size, 6, none⟩ = some (.int .u16 (Y.R 6)) := Lib.cell_of_heap HX6.out 6
 have y6 : W32.cell? ⟨w22.heap.size, 6, none⟩ = some (.int .u16 (Y.R 6)) := Lib.cell_of_heap HX32.out 6
 have x7 : W32.cell? ⟨w21.heap.size, 7, none⟩ = some (.int .u16 (Y.R 7)) := Lib.cell_of_heap HX6.out 7
 have y7 : W32.cell? ⟨w22.heap.size, 7, none⟩ = some (.int .u16 (Y.R 7)) := Lib.cell_of_heap HX32.out 7
 have x8 : W32.cell? ⟨w21.heap.size, 8, none⟩ = some (.int .u16 Y.pc) := Lib.cell_of_heap HX6.out 8
 have y8 : W32.cell? ⟨w22.heap.size, 8, none⟩ = some (.int .u16 Y.pc) := Lib.cell_of_heap HX32.out 8
 have x9 : W32.cell? ⟨w21.heap.size, 9, none⟩ = some (.int .u16 Y.sp) := Lib.cell_of_heap HX6.out 9
 have y9 : W32.cell? ⟨w22.heap.size, 9, none⟩ = some (.int .u16 Y.sp) := Lib.cell_of_heap HX32.out 9
 have x10 : W32.cell? ⟨w21.heap.size, 10, none⟩ = some (.int .u16 Y.fp) := Lib.cell_of_heap HX6.out 10
 have y10 : W32.cell? ⟨w22.heap.size, 10, none⟩ = some (.int .u16 Y.fp) := Lib.cell_of_heap HX32.out 10
 have x11 : W32.cell? ⟨w21.heap.size, 11, none⟩ = some (.int .u16 Y.f) := Lib.cell_of_heap HX6.out 11
 have y11 : W32.cell? ⟨w22.heap.size, 11, none⟩ = some (.int .u16 Y.f) := Lib.cell_of_heap HX32.out 11
 have x12 : W32.cell? ⟨w21.heap.size, 12, none⟩ = some (.int .i64 Y.bank) := Lib.cell_of_heap HX6.out 12
 have y12 : W32.cell? ⟨w22.heap.size, 12, none⟩ = some (.int .i64 Y.bank) := Lib.cell_of_heap HX32.out 12
 have x13 : W32.cell? ⟨w21.heap.size, 13, none⟩ = some (.int .i64 Y.steps) := Lib.cell_of_heap HX6.out 13
 have y13 : W32.cell? ⟨w22.heap.size, 13, none⟩ = some (.int .i64 Y.steps) := Lib.cell_of_heap HX32.out 13
 have x14 : W32.cell? ⟨w21.heap.size, 14, none⟩ = some (.int .i64 Y.inputs) := Lib.cell_of_heap HX6.out 14
 have y14 : W32.cell? ⟨w22.heap.size, 14, none⟩ = some (.int .i64 Y.inputs) := Lib.cell_of_heap HX32.out 14
 have x15 : W32.cell? ⟨w21.heap.size, 15, none⟩ = some (.int .i64 Y.polls) := Lib.cell_of_heap HX6.out 15
 have y15 : W32.cell? ⟨w22.heap.size, 15, none⟩ = some (.int .i64 Y.polls) := Lib.cell_of_heap HX32.out 15
 have x16 : W32.cell? ⟨w21.heap.size, 16, none⟩ = some (.string RS) := Lib.cell_of_heap HX6.out 16
 have y16 : W32.cell? ⟨w22.heap.size, 16, none⟩ = some (.string RS) := Lib.cell_of_heap HX32.out 16
 have x17 : W32.cell? ⟨w21.heap.size, 17, none⟩ = some (.slice p1 Y.st.length c1) := Lib.cell_of_heap HX6.out 17
 have y17 : W32.cell? ⟨w22.heap.size, 17, none⟩ = some (.slice p2 Y.st.length c2) := Lib.cell_of_heap HX32.out 17
 have q39 : ∀ W, (binOp .neq 32 (.agg #[.int .u16 (Y.R 0), .int .u16 (Y.R 1), .int .u16 (Y.R 2), .int .u16 (Y.R 3), .int .u16 (Y.R 4), .int .u16 (Y.R 5), .int .u16 (Y.R 6), .int .u16 (Y.R 7), .int .u16 Y.pc, .int .u16 Y.sp, .int .u16 Y.fp, .int .u16 Y.f, .int .i64 Y.bank, .int .i64 Y.steps, .int .i64 Y.inputs, .int .i64 Y.polls]) (.agg #[.int .u16 (Y.R 0), .int .u16 (Y.R 1), .int .u16 (Y.R 2), .int .u16 (Y.R 3), .int .u16 (Y.R 4), .int .u16 (Y.R 5), .int .u16 (Y.R 6), .int .u16 (Y.R 7), .int .u16 Y.pc, .int .u16 Y.sp, .int .u16 Y.fp, .int .u16 Y.f, .int .i64 Y.bank, .int .i64 Y.steps, .int .i64 Y.inputs, .int .i64 Y.polls])).run Tryz.prog W = .ok (.bool false) W := neq39 Y
 have hg39 : Tryz.prog.eqGuardType Tryz.prog.depth 32 = false := by kernel_rfl
 go_wp2_with fail
 clear q39 hg39 x0 y0 x1 y1 x2 y2 x3 y3 x4 y4 x5 y5 x6 y6 x7 y7 x8 y8 x9 y9 x10 y10 x11 y11 x12 y12 x13 y13 x14 y14 x15 y15 x16 y16 x17 y17
 have KR : Hid (∀ W, Below W32.heap.size W32 W → W.cell? ⟨w21.heap.size, 17, none⟩ = some (.slice p1 Y.st.length c1) ∧ W.cell? ⟨w22.heap.size, 17, none⟩ = some (.slice p2 Y.st.length c2) ∧ W.cell? ⟨w21.heap.size, 18, none⟩ = some (.slice q1 Y.out.length d1) ∧ W.cell? ⟨w22.heap.size, 18, none⟩ = some (.slice q2 Y.out.length d2)) := Lib.hid fun W hW => ⟨Lib.cell_of_heap (at_next hW HX6.out) 17, Lib.cell_of_heap (at_next hW HX32.out) 17, Lib.cell_of_heap (at_next hW HX6.out) 18, Lib.cell_of_heap (at_next hW HX32.out) 18⟩
 obtain ⟨n, hn⟩ : ∃ n, Y.st.length = n := ⟨_, rfl⟩
 have HN := Lib.hid hn
 have HNL : Hid (n ≤ 4096) := Lib.hid (hn ▸ HYL.out.1)
 rw [hn] at KR
 clear hn
 go_loopw [7] (fun i_ wr => ∃ j : Nat, j ≤ n ∧ i_ = .int .i64 (j : Int) ∧ Below W32.heap.size W32 wr) (fun i_ _ => n - (intOf i_).toNat)
 case atStart => exact ⟨0, Nat.zero_le _, rfl, Below.refl _ _⟩
 case round =>
  obtain ⟨j, hj, rfl, hb⟩ := hrel
  have HBJ := Lib.hid hb
  obtain ⟨l17, m17, l18, m18⟩ := KR.out _ hb
  by_cases hlt : j < n
  ·have b0 : decide ((j : Int) < (n : Int)) = true := decide_eq_true (by omega)
   have b1 : decide (j < n) = true := decide_eq_true hlt
   have x2 : IntKind.i64.wrap ((j : Int) + 1) = (j : Int) + 1 := IntWalk.i64_in _ (by have := HNL.out; omega)
   have i0 : (0 : Int) ≤ (j : Int) := by omega
   have i1 : (j : Int) < (n : Int) := by omega
   have HLT := Lib.hid hlt
   obtain ⟨ga, hpa, hga, hca⟩ := (own_src HS6.out.st).resolve_left (by rw [HN.out]; omega)
   obtain ⟨gb, hpb, hgb, hcb⟩ := (own_src HS32.out.st).resolve_left (by rw [HN.out]; omega)
   subst hpa hpb
   obtain ⟨x, hx⟩ := at_some Y.st j (by rw [HN.out]; exact hlt)
   have hget : (Y.st.map (Value.int .u16))[j]? = some (.int .u16 x) := by rw [List.getElem?_map, hx]; rfl
   have HQ : Hid (∀ W, Below wr.heap.size wr W → W.cell? ⟨w21.heap.size, 17, none⟩ = some (.slice (some ⟨ga, 0, none⟩) n c1) ∧ W.cell? ⟨w22.heap.size, 17, none⟩ = some (.slice (some ⟨gb, 0, none⟩) n c2) ∧ W.cell? ⟨ga, j, none⟩ = some (.int .u16 x) ∧ W.cell? ⟨gb, j, none⟩ = some (.int .u16 x)) := Lib.hid fun W hW => by
    have hb2 := below_next HBJ.out hW
    exact ⟨(KR.out W hb2).1, (KR.out W hb2).2.1, (hb2.cell (p := ⟨ga, j, none⟩) hga).trans (hca _ _ hget), (hb2.cell (p := ⟨gb, j, none⟩) hgb).trans (hcb _ _ hget)⟩
   clear hca hcb hget hga hgb hj hb hlt hx
   go_upto_region 8 with (fail)
   clear l17 m17 l18 m18
   refine wp_region_flow (S := fun W => Below wr.heap.size wr W) (by kernel_rfl) (by kernel_rfl) (Below.drew (Below.refl _ _)) ?_
   iterate 11
    apply Flow.step
    ·intro V2 K hS hK
     obtain ⟨l17, m17, l4, lb⟩ := HQ.out _ hS
     go_simp
     exact hK _ hS
    simp only [lQ]
   refine Flow.done ?_
   intro V2 hS
   have HB3 := Lib.hid (below_next HBJ.out hS)
   clear hS
   go_wp2_with fail
   go_roundw
   case rel => exact ⟨j + 1, by have := HLT.out; omega, by go_num, HB3.out⟩
   case measure => have := HLT.out; simp only [intOf]; omega
  ·obtain rfl : j = n := by omega
   have b0 : decide ((j : Int) < (j : Int)) = false := decide_eq_false (by omega)
   have b1 : decide (j < j) = false := decide_eq_false (by omega)
   have HEV := Lib.hid (events_any q1 q2 d1 d2 Y.out Y.out wr (own_src (HS6.out.next HBJ.out).out) (own_src (HS32.out.next HBJ.out).out) HYL.out.2)
   clear hj hb hlt
   go_wp2_with fail
   refine HEV.out.mono ?_
   rintro e wz ⟨rfl, hz⟩
   have he : evEq Y.out Y.out = true := decide_eq_true rfl
   have HBY := Lib.hid (below_next HBZ.out (below_next HBJ.out hz))
   rw [he]
   clear hz he
   go_wp2_with fail
   exact bodyPost_ret (v := .bool true) (by simp [results, Tryz.results9, go_sem]) rfl ⟨rfl, HBY.out⟩
end Go.Proofs.YtieaicdihingkaaGreat
