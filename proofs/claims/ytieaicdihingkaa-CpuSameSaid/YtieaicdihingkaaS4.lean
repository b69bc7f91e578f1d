/- The reference's Same: of any two states. -/
import Derived.Test.YtieaicdihingkaaS3
import Derived.Test.YtieaicdihingkaaR4
namespace Go.Proofs.Ytieaicdihingkaa
set_option linter.unusedVariables false
set_option linter.unusedSimpArgs false
open Go.RowKit
theorem neq39b (m n : Mach) (W : World) : (binOp .neq 39 (.agg (stC m)) (.agg (stC n))).run Try.prog W = .ok (.bool (!stB m n)) W := by
 have h := eql39b m n W
 rw [run_eql_struct, run_equalIn_agg W 9999 39 _ _ fields39 stood39] at h
 rw [run_neq_struct, run_equalIn_agg W 9999 39 _ _ fields39 stood39]
 revert h
 generalize Sem.run Try.prog (Op.eqFields 9999 (stC m) (stC n) (Try.prog.fieldsOf 39).toList) W = x
 intro h
 cases x <;> simp [Result.andThen] at h ⊢
 exact ⟨by rw [h.1], h.2⟩
theorem snC_at {W : World} {b : Nat} {X : Mach} {S : ByteArray} {u v : Value} (h : W.heap[b]? = some (.cells (snC X S u v) 43 (0, 0))) : W.cell? ⟨b, 0, none⟩ = some (.int .u16 (X.R 0)) ∧ W.cell? ⟨b, 1, none⟩ = some (.int .u16 (X.R 1)) ∧ W.cell? ⟨b, 2, none⟩ = some (.int .u16 (X.R 2)) ∧ W.cell? ⟨b, 3, none⟩ = some (.int .u16 (X.R 3)) ∧ W.cell? ⟨b, 4, none⟩ = some (.int .u16 (X.R 4)) ∧ W.cell? ⟨b, 5, none⟩ = some (.int .u16 (X.R 5)) ∧ W.cell? ⟨b, 6, none⟩ = some (.int .u16 (X.R 6)) ∧ W.cell? ⟨b, 7, none⟩ = some (.int .u16 (X.R 7)) ∧ W.cell? ⟨b, 8, none⟩ = some (.int .u16 X.pc) ∧ W.cell? ⟨b, 9, none⟩ = some (.int .u16 X.sp) ∧ W.cell? ⟨b, 10, none⟩ = some (.int .u16 X.fp) ∧ W.cell? ⟨b, 11, none⟩ = some (.int .u16 X.f) ∧ W.cell? ⟨b, 12, none⟩ = some (.int .i64 X.bank) ∧ W.cell? ⟨b, 13, none⟩ = some (.int .i64 X.steps) ∧ W.cell? ⟨b, 14, none⟩ = some (.int .i64 X.inputs) ∧ W.cell? ⟨b, 15, none⟩ = some (.int .i64 X.polls) ∧ W.cell? ⟨b, 16, none⟩ = some (.string S) ∧ W.cell? ⟨b, 17, none⟩ = some (u) ∧ W.cell? ⟨b, 18, none⟩ = some (v) :=
 ⟨Lib.cell_of_heap h 0, Lib.cell_of_heap h 1, Lib.cell_of_heap h 2, Lib.cell_of_heap h 3, Lib.cell_of_heap h 4, Lib.cell_of_heap h 5, Lib.cell_of_heap h 6, Lib.cell_of_heap h 7, Lib.cell_of_heap h 8, Lib.cell_of_heap h 9, Lib.cell_of_heap h 10, Lib.cell_of_heap h 11, Lib.cell_of_heap h 12, Lib.cell_of_heap h 13, Lib.cell_of_heap h 14, Lib.cell_of_heap h 15, Lib.cell_of_heap h 16, Lib.cell_of_heap h 17, Lib.cell_of_heap h 18⟩
theorem norm_sp (m : Mach) (S : ByteArray) (l : List Int) : ({ normM m S l with sp := ((normM m S l).st.length : Int) } : Mach) = normM m S l := by
 simp only [normM, List.length_take, Nat.min_comm]
theorem same_no {w w' : World} {X Y : Mach} (h : ¬ SameM X Y) (hb : Below w.heap.size w w') : SamePost w X Y (.returned (.bool false)) w' := ⟨false, rfl, ⟨fun e => (by cases e), fun e => absurd e h⟩, hb⟩
set_option maxRecDepth 20000 in
set_option maxHeartbeats 8000000 in
theorem rSame_any {w : World} {ma mb : Mach} {Sa Sb : ByteArray} {la lb : List Int} {psa poa psb pob : Option Addr} {csa coa csb cob : Nat} (ha : LoadIn w ma Sa la psa poa csa coa) (hb : LoadIn w mb Sb lb psb pob csb cob) :
  Calls Try.prog 18 #[.agg (snC ma Sa (.slice psa la.length csa) (.slice poa ma.out.length coa)), .agg (snC mb Sb (.slice psb lb.length csb) (.slice pob mb.out.length cob))] w (SamePost w (normM ma Sa la) (normM mb Sb lb)) := by
 have HA := Lib.hid ha
 have HB := Lib.hid hb
 obtain ⟨X, hX⟩ : ∃ X, normM ma Sa la = X := ⟨_, rfl⟩
 obtain ⟨Y, hY⟩ : ∃ Y, normM mb Sb lb = Y := ⟨_, rfl⟩
 have HXX : Hid (({ X with sp := (X.st.length : Int) } : Mach) = X) := Lib.hid (hX ▸ norm_sp ma Sa la)
 have HYY : Hid (({ Y with sp := (Y.st.length : Int) } : Mach) = Y) := Lib.hid (hY ▸ norm_sp mb Sb lb)
 have HNA : Hid (NormalIn X la.length ma.out) := Lib.hid (hX ▸ normalIn ha)
 have HNB : Hid (NormalIn Y lb.length mb.out) := Lib.hid (hY ▸ normalIn hb)
 rw [hX, hY]
 have HXA := Lib.hid hX
 have HXB := Lib.hid hY
 clear ha hb hX hY
 go_enter Try.func18, Try.ntmps18
 go_upto_region 1 with (fail)
 generalize e0 : (w.alloc _).alloc _ = W0
 have HA0 : Hid (W0.heap[w.heap.size]? = some (.cells (snC ma Sa (.slice psa la.length csa) (.slice poa ma.out.length coa)) 43 (0, 0))) := Lib.hid (e0 ▸ blk_mid1 w _ _)
 have HB0 : Hid (W0.heap[w.heap.size + 1]? = some (.cells (snC mb Sb (.slice psb lb.length csb) (.slice pob mb.out.length cob)) 43 (0, 0))) := Lib.hid (by
  have h9 := alloc_at (w.alloc (.cells (snC ma Sa (.slice psa la.length csa) (.slice poa ma.out.length coa)) 43)) (.cells (snC mb Sb (.slice psb lb.length csb) (.slice pob mb.out.length cob)) 43)
  rw [World.size_alloc] at h9
  rw [← e0]
  exact h9)
 have HW0 : Hid (Below w.heap.size w W0) := Lib.hid (e0 ▸ below_alloc (below1 w _) _)
 have HLA := Lib.hid (HA.out.next HW0.out)
 have HLB := Lib.hid (HB.out.next HW0.out)
 clear e0
 go_wp2_with (refine wpList_load_row 43 _ rfl rfl w.heap.size rfl (snC ma Sa (.slice psa la.length csa) (.slice poa ma.out.length coa)) HA0.out Try.underlying43 info43 ?_)
 refine (load_ref (E := emptyE) HLA.out).mono ?_
 rintro e w11 ⟨B1, g1, sv1, ov1, rfl, hb, hr, hz, hy⟩
 rw [HXA.out] at hr
 have HR1 := Lib.hid hr
 have HBB1 := Lib.hid hb
 have HZ1 : Hid ((X.st.length = 0 → sv1 = .slice none 0 0) ∧ (X.out.length = 0 → ov1 = .slice none 0 0)) := Lib.hid ⟨fun e => hz (by rw [← HNA.out.lenE]; exact e), fun e => hy (by rw [← HNA.out.out]; exact e)⟩
 clear hb hr hz hy
 go_wp2_with fail
 refine (snap_ref HR1.out HNA.out.ram HNA.out.len HNA.out.olen HZ1.out.1 HZ1.out.2).mono ?_
 rintro e w21 ⟨C1, rfl, hs1, hsz1, hlow1⟩
 rw [HXX.out] at hs1
 obtain ⟨p1, c1, q1, d1, rfl, hin1⟩ := hs1.cells
 have HIN1 := Lib.hid hin1
 have HD1 := Lib.hid (hlow1 W0 (Nat.le_refl _) HBB1.out)
 clear hs1 hsz1 hlow1 hin1
 go_wp2_with (refine wpList_store_row 43 _ _ rfl rfl w21.heap.size rfl (snC X (ramS X.ram) (.slice p1 X.st.length c1) (.slice q1 X.out.length d1)) rfl (alloc_at w21 _) info43 rfl (snC_one _ _ _ _ _ _ _ _) ?_; refine Hid.out ?_)
 generalize e31 : World.setRow _ _ _ = W31
 have hlw := law_start HD1.out (snap_low HIN1.out HBB1.out.size) rfl e31
 have HX31 := Lib.hid hlw.x
 have HS31 := Lib.hid hlw.snap
 have HD31 := Lib.hid hlw.bel
 clear hlw
 refine Lib.hid ?_
 clear e31
 go_wp2_with (refine wpList_load_row 43 _ rfl rfl (w.heap.size + 1) rfl (snC mb Sb (.slice psb lb.length csb) (.slice pob mb.out.length cob)) (at_next HD31.out HB0.out) Try.underlying43 info43 ?_)
 refine (load_ref (E := emptyE) (HLB.out.next HD31.out)).mono ?_
 rintro e w12 ⟨B2, g2, sv2, ov2, rfl, hb, hr, hz, hy⟩
 rw [HXB.out] at hr
 have HR2 := Lib.hid hr
 have HBB2 := Lib.hid hb
 have HZ2 : Hid ((Y.st.length = 0 → sv2 = .slice none 0 0) ∧ (Y.out.length = 0 → ov2 = .slice none 0 0)) := Lib.hid ⟨fun e => hz (by rw [← HNB.out.lenE]; exact e), fun e => hy (by rw [← HNB.out.out]; exact e)⟩
 clear hb hr hz hy
 go_wp2_with fail
 refine (snap_ref HR2.out HNB.out.ram HNB.out.len HNB.out.olen HZ2.out.1 HZ2.out.2).mono ?_
 rintro e w22 ⟨C1, rfl, hs1, hsz1, hlow1⟩
 rw [HYY.out] at hs1
 obtain ⟨p2, c2, q2, d2, rfl, hin1⟩ := hs1.cells
 have HIN2 := Lib.hid hin1
 have HD2 := Lib.hid (hlow1 W31 (Nat.le_refl _) HBB2.out)
 clear hs1 hsz1 hlow1 hin1
 go_wp2_with (refine wpList_store_row 43 _ _ rfl rfl w22.heap.size rfl (snC Y (ramS Y.ram) (.slice p2 Y.st.length c2) (.slice q2 Y.out.length d2)) rfl (alloc_at w22 _) info43 rfl (snC_one _ _ _ _ _ _ _ _) ?_; refine Hid.out ?_)
 generalize e31 : World.setRow _ _ _ = W32
 have hlw := law_start HD2.out (snap_low HIN2.out HBB2.out.size) rfl e31
 have HX32 := Lib.hid hlw.x
 have HS32 := Lib.hid hlw.snap
 have HD32 := Lib.hid hlw.bel
 clear hlw
 refine Lib.hid ?_
 clear e31
 have HX6 := Lib.hid (at_next HD32.out HX31.out)
 have HS6 := Lib.hid (HS31.out.next HD32.out)
 have HBZ := Lib.hid (below_next HW0.out (below_next HD31.out HD32.out))
 have HL : Hid (X.st.length ≤ 4096 ∧ X.out.length ≤ 1000000000000) := Lib.hid ⟨HNA.out.len, HNA.out.olen⟩
 have HLY : Hid (Y.st.length ≤ 4096) := Lib.hid HNB.out.len
 obtain ⟨RX, hRX⟩ : ∃ RX, ramS X.ram = RX := ⟨_, rfl⟩
 obtain ⟨RY, hRY⟩ : ∃ RY, ramS Y.ram = RY := ⟨_, rfl⟩
 rw [hRX] at HX6
 rw [hRY] at HX32
 have HRX := Lib.hid hRX
 have HRY := Lib.hid hRY
 clear hRX hRY HX31 HS31 HD31 HD32 HLA HLB HA0 HB0 HXA HXB HNA HNB HXX HYY HA HB HR1 HR2 HBB1 HBB2 HZ1 HZ2 HIN1 HIN2 HD1 HD2 HW0
 obtain ⟨x0, x1, x2, x3, x4, x5, x6, x7, x8, x9, x10, x11, x12, x13, x14, x15, x16, x17, x18⟩ := snC_at HX6.out
 obtain ⟨y0, y1, y2, y3, y4, y5, y6, y7, y8, y9, y10, y11, y12, y13, y14, y15, y16, y17, y18⟩ := snC_at HX32.out
 have hg39 : Try.prog.eqGuardType Try.prog.depth 39 = false := by kernel_rfl
 have q39 : ∀ W, (binOp .neq 39 (.agg #[.int .u16 (X.R 0), .int .u16 (X.R 1), .int .u16 (X.R 2), .int .u16 (X.R 3), .int .u16 (X.R 4), .int .u16 (X.R 5), .int .u16 (X.R 6), .int .u16 (X.R 7), .int .u16 X.pc, .int .u16 X.sp, .int .u16 X.fp, .int .u16 X.f, .int .i64 X.bank, .int .i64 X.steps, .int .i64 X.inputs, .int .i64 X.polls]) (.agg #[.int .u16 (Y.R 0), .int .u16 (Y.R 1), .int .u16 (Y.R 2), .int .u16 (Y.R 3), .int .u16 (Y.R 4), .int .u16 (Y.R 5), .int .u16 (Y.R 6), .int .u16 (Y.R 7), .int .u16 Y.pc, .int .u16 Y.sp, .int .u16 Y.fp, .int .u16 Y.f, .int .i64 Y.bank, .int .i64 Y.steps, .int .i64 Y.inputs, .int .i64 Y.polls])).run Try.prog W = .ok (.bool (!stB X Y)) W := neq39b X Y
 obtain ⟨e1, he1⟩ : ∃ e1, stB X Y = e1 := ⟨_, rfl⟩
 rw [he1] at q39
 cases e1
 ·have hno : ¬ SameM X Y := fun h => by
   rw [(stB_iff X Y).2 h.1] at he1
   cases he1
  have HNO := Lib.hid hno
  clear hno he1
  go_wp2_with fail
  exact bodyPost_ret (v := .bool false) (by simp [results, Try.results18, go_sem]) rfl (same_no HNO.out HBZ.out)
 have HE1 : Hid (stC X = stC Y) := Lib.hid ((stB_iff X Y).1 he1)
 clear he1
 by_cases he2 : RX.toList = RY.toList
 rotate_left
 ·have hno : ¬ SameM X Y := fun h => he2 (by rw [← HRX.out, ← HRY.out]; exact h.2.1)
  have HNO := Lib.hid hno
  have d2 : decide (RX.toList = RY.toList) = false := decide_eq_false he2
  have d3 : (RX.toList = RY.toList) = False := eq_false he2
  have d6 : (RX.toList == RY.toList) = false := by simpa using he2
  clear hno he2
  go_wp2_with fail
  exact bodyPost_ret (v := .bool false) (by simp [results, Try.results18, go_sem]) rfl (same_no HNO.out HBZ.out)
 have HE2 := Lib.hid he2
 have d2 : decide (RX.toList = RY.toList) = true := decide_eq_true he2
 have d3 : (RX.toList = RY.toList) = True := eq_true he2
 have d6 : (RX.toList == RY.toList) = true := by simpa using he2
 clear he2
 by_cases he3 : X.st.length = Y.st.length
 rotate_left
 ·have hno : ¬ SameM X Y := fun h => he3 (congrArg _ h.2.2.1)
  have HNO := Lib.hid hno
  have d5 : ((X.st.length : Int) != (Y.st.length : Int)) = true := by simp only [bne_iff_ne, ne_eq]; omega
  have d4 : (X.st.length != Y.st.length) = true := by simpa using he3
  clear hno he3
  go_wp2_with fail
  exact bodyPost_ret (v := .bool false) (by simp [results, Try.results18, go_sem]) rfl (same_no HNO.out HBZ.out)
 obtain ⟨n, hn⟩ : ∃ n, X.st.length = n := ⟨_, rfl⟩
 have hm : Y.st.length = n := he3.symm.trans hn
 have HN := Lib.hid hn
 have HM := Lib.hid hm
 have HNL : Hid (n ≤ 4096) := Lib.hid (hn ▸ HL.out.1)
 rw [hn] at x17
 rw [hm] at y17
 clear hn hm he3
 have dn : ((n : Int) != (n : Int)) = false := by simp
 go_wp2_with fail
 clear q39 hg39 d2 d3 d6 dn x0 y0 x1 y1 x2 y2 x3 y3 x4 y4 x5 y5 x6 y6 x7 y7 x8 y8 x9 y9 x10 y10 x11 y11 x12 y12 x13 y13 x14 y14 x15 y15 x16 y16 x17 y17 x18 y18
 have KR : Hid (∀ W, Below W32.heap.size W32 W → W.cell? ⟨w21.heap.size, 17, none⟩ = some (.slice p1 n c1) ∧ W.cell? ⟨w22.heap.size, 17, none⟩ = some (.slice p2 n c2) ∧ W.cell? ⟨w21.heap.size, 18, none⟩ = some (.slice q1 X.out.length d1) ∧ W.cell? ⟨w22.heap.size, 18, none⟩ = some (.slice q2 Y.out.length d2)) := Lib.hid fun W hW => HN.out ▸ ⟨Lib.cell_of_heap (at_next hW HX6.out) 17, HN.out.trans HM.out.symm ▸ Lib.cell_of_heap (at_next hW HX32.out) 17, Lib.cell_of_heap (at_next hW HX6.out) 18, Lib.cell_of_heap (at_next hW HX32.out) 18⟩
 go_loopw [7] (fun i_ wr => ∃ j : Nat, j ≤ n ∧ i_ = .int .i64 (j : Int) ∧ Below W32.heap.size W32 wr ∧ ∀ k : Nat, k < j → X.st[k]? = Y.st[k]?) (fun i_ _ => n - (intOf i_).toNat)
 case atStart => exact ⟨0, Nat.zero_le _, rfl, Below.refl _ _, fun k hk => by omega⟩
 case round =>
  obtain ⟨j, hj, rfl, hb, hall⟩ := hrel
  have HBJ := Lib.hid hb
  have HALL := Lib.hid hall
  clear hall
  obtain ⟨l17, m17, l18, m18⟩ := KR.out _ hb
  by_cases hlt : j < n
  ·have b0 : decide ((j : Int) < (n : Int)) = true := decide_eq_true (by omega)
   have b1 : decide (j < n) = true := decide_eq_true hlt
   have x2 : IntKind.i64.wrap ((j : Int) + 1) = (j : Int) + 1 := IntWalk.i64_in _ (by have := HNL.out; omega)
   have i0 : (0 : Int) ≤ (j : Int) := by omega
   have i1 : (j : Int) < (n : Int) := by omega
   have HLT := Lib.hid hlt
   obtain ⟨ga, hpa, hga, hca⟩ := (own_src HS6.out.st).resolve_left (by rw [HN.out]; omega)
   obtain ⟨gb, hpb, hgb, hcb⟩ := (own_src HS32.out.st).resolve_left (by rw [HM.out]; omega)
   subst hpa hpb
   obtain ⟨x, hx⟩ := at_some X.st j (by rw [HN.out]; exact hlt)
   obtain ⟨y, hy⟩ := at_some Y.st j (by rw [HM.out]; exact hlt)
   have HXJ := Lib.hid hx
   have HYJ := Lib.hid hy
   have hgx : (X.st.map (Value.int .u16))[j]? = some (.int .u16 x) := by rw [List.getElem?_map, hx]; rfl
   have hgy : (Y.st.map (Value.int .u16))[j]? = some (.int .u16 y) := by rw [List.getElem?_map, hy]; rfl
   have HQ : Hid (∀ W, Below wr.heap.size wr W → W.cell? ⟨w21.heap.size, 17, none⟩ = some (.slice (some ⟨ga, 0, none⟩) n c1) ∧ W.cell? ⟨w22.heap.size, 17, none⟩ = some (.slice (some ⟨gb, 0, none⟩) n c2) ∧ W.cell? ⟨ga, j, none⟩ = some (.int .u16 x) ∧ W.cell? ⟨gb, j, none⟩ = some (.int .u16 y)) := Lib.hid fun W hW => by
    have hb2 := below_next HBJ.out hW
    exact ⟨(KR.out W hb2).1, (KR.out W hb2).2.1, (hb2.cell (p := ⟨ga, j, none⟩) hga).trans (hca _ _ hgx), (hb2.cell (p := ⟨gb, j, none⟩) hgb).trans (hcb _ _ hgy)⟩
   clear hca hcb hgx hgy hga hgb hj hb hlt hx hy
   go_upto_region 8 with (fail)
   clear l17 m17 l18 m18
   refine wp_region_flow (S := fun W => Below wr.heap.size wr W) (by kernel_rfl) (by kernel_rfl) (Below.drew (Below.refl _ _)) ?_
   iterate 11
    apply Flow.step
    ·intro V2 K hS hK
     obtain ⟨l17, m17, l4, lb⟩ := HQ.out _ hS
     go_simp
     exact hK _ hS
    simp only [lQ]
   refine Flow.done ?_
   intro V2 hS
   have HB3 := Lib.hid (below_next HBJ.out hS)
   clear hS
   by_cases hxy : x = y
   ·have HXY : Hid (X.st[j]? = Y.st[j]?) := Lib.hid (by rw [HXJ.out, HYJ.out, hxy])
    have dx : (x != y) = false := by simpa using hxy
    clear hxy
    go_wp2_with fail
    go_roundw
    case rel => exact ⟨j + 1, by have := HLT.out; omega, by go_num, HB3.out, fun k hk => by
     by_cases e : k = j
     ·subst e; exact HXY.out
     ·exact HALL.out k (by omega)⟩
    case measure => have := HLT.out; simp only [intOf]; omega
   ·have hno : ¬ SameM X Y := fun h => by
     have h9 := HXJ.out
     rw [h.2.2.1, HYJ.out] at h9
     simp only [Option.some.injEq] at h9
     exact hxy h9.symm
    have HNO := Lib.hid hno
    have dx : (x != y) = true := by simpa using hxy
    clear hno hxy
    go_wp2_with fail
    exact bodyPost_ret (v := .bool false) (by simp [results, Try.results18, go_sem]) rfl (same_no HNO.out (below_next HBZ.out HB3.out))
  ·obtain rfl : j = n := by omega
   have b0 : decide ((j : Int) < (j : Int)) = false := decide_eq_false (by omega)
   have b1 : decide (j < j) = false := decide_eq_false (by omega)
   have hst : X.st = Y.st := List.ext_getElem? fun k => by
    by_cases h : k < j
    ·exact HALL.out k h
    ·rw [List.getElem?_eq_none (by have := HN.out; omega), List.getElem?_eq_none (by have := HM.out; omega)]
   have HST := Lib.hid hst
   have HEV := Lib.hid (events_any q1 q2 d1 d2 X.out Y.out wr (own_src (HS6.out.next HBJ.out).out) (own_src (HS32.out.next HBJ.out).out) HL.out.2)
   clear hj hb hlt hst
   go_wp2_with fail
   refine HEV.out.mono ?_
   obtain ⟨ev, hev⟩ : ∃ ev, evEq X.out Y.out = ev := ⟨_, rfl⟩
   rw [hev]
   have HEQ := Lib.hid hev
   clear hev
   rintro e wz ⟨rfl, hz⟩
   have HBY := Lib.hid (below_next HBZ.out (below_next HBJ.out hz))
   clear hz
   go_wp2_with fail
   exact bodyPost_ret (v := .bool ev) (by simp [results, Try.results18, go_sem]) rfl ⟨ev, rfl, ⟨fun e => ⟨HE1.out, by rw [HRX.out, HRY.out]; exact HE2.out, HST.out, of_decide_eq_true (HEQ.out.trans e)⟩, fun h => HEQ.out.symm.trans (decide_eq_true h.2.2.2)⟩, HBY.out⟩
end Go.Proofs.Ytieaicdihingkaa
