/- CpuArith: the walk. -/
import Derived.Test.YtieaicdihingkaaPA
import Derived.Test.YtieaicdihingkaaR4
namespace Go.Proofs.Ytieaicdihingkaa
set_option linter.unusedVariables false
set_option linter.unusedSimpArgs false
open Go.RowKit
theorem two_blks (w W : World) (a b : Obj) (h : (w.alloc a).alloc b = W) : W.heap[w.heap.size]? = some a ∧ W.heap[w.heap.size + 1]? = some b ∧ Below w.heap.size w W := by
  subst h
  have h2 := alloc_at (w.alloc a) b
  rw [World.size_alloc] at h2
  exact ⟨blk_mid1 w a b, h2, below_alloc (below1 w a) b⟩
theorem am_ok {a b f : Int} (ha : OkU16 a) (hb : OkU16 b) (hf : OkU16 f) : (am a b f).Ok := by
  obtain ⟨a1, a2, a3, a4, a5, a6, a7, a8, a9, a10, a11, a12, a13, a14⟩ := startM_ok ok16_0
  refine ⟨fun k => ?_, (show OkU16 0 from ok16_0), a3, a4, hf, a6, a7, a8, a9, a10, a11, a12, a13, a14⟩
  show OkU16 (aR a b k)
  unfold aR setR
  repeat' split
  · exact hb
  · exact ha
  · exact ok16_0
theorem sign_low (x : Int) (h0 : 0 ≤ x) (h1 : x < 256) : OkU16 (signI x) ∧ (signI x < 128 ∨ 65408 ≤ signI x) := by
  unfold signI OkU16
  split <;> omega
theorem load_of {w W0 : World} {m : Mach} {S : ByteArray} {p1 p2 : Option Addr} {c1 c2 : Nat} (hs : SnapIn W0 w m (.slice p1 m.st.length c1) (.slice p2 m.out.length c2)) (hl : m.st.length ≤ 4096) (ho : m.out.length ≤ 1000000000000) (hc : m.st.length ≤ c1) : LoadIn w m S m.st p1 p2 c1 c2 := ⟨own_rowSrc hs.st (by decide), own_rowSrc hs.out (by decide), hl, hc, ho⟩
theorem own_cap {w : World} {base e n : Nat} {p : Option Addr} {c size : Nat} {xs : List Value} (h : w.ownsRow base e size (.slice p n c) n xs) : n ≤ c := by
  rcases h.2 with ⟨e0, h0⟩ | ⟨g, cap, cur, e1, hb, hg, hnc, _⟩
  · omega
  · injection e1 with _ _ e3
    subst e3
    exact hnc
theorem load_of2 {w W0 : World} {m n : Mach} {S : ByteArray} {p1 p2 : Option Addr} {c1 c2 : Nat} (hs : SnapIn W0 w m (.slice p1 2 c1) (.slice p2 0 c2)) (h1 : m.st = [0, 65535]) (h2 : m.out = []) (h3 : n.out = []) : LoadIn w n S [0, 65535] p1 p2 c1 c2 := by
  obtain ⟨a, b⟩ := hs
  rw [h1] at a
  rw [h2] at b
  have hb := own_rowSrc b (by decide)
  have hc := own_cap a
  refine ⟨own_rowSrc a (by decide), ?_, by decide, hc, by rw [h3]; decide⟩
  rw [h3]
  exact hb
theorem wpList_load_rowg {ops : Array Oper} {rest : List Oper} {o : Oper} {a : Act} {Q : Exit → Act → World → Prop} {W : World} (t : TypeId) (x : Operand) (hgd : Region.wanted o (yielded ops a.tmps) = true) (ho : o.op = .load t x) (N : Nat) (hx : a.eval x = .pointer (some ⟨N, 0, none⟩)) (C : Array Value) {e : TypeId}
    (hN : W.heap[N]? = some (.cells C e (0, 0))) {fs : Array Field} (hu : Try.prog.underlying t = some (.struct fs)) (hi : (Try.prog.info? t).map (·.size) = some C.size) (h : wpList Try.prog ops Q rest (a.put o.dst (.agg C)) W) : wpList Try.prog ops Q (o :: rest) a W := by
  refine wpList_step fun K hK => ?_
  rw [if_pos hgd]
  have hl := run_loadVar_row (P := Try.prog) W N e t C (0, 0) _ hN hu rfl hi
  unfold Oper.wp execOp
  simp only [ho, hx, Instr.loadAt, Instr.sureAddr, Sem.run_bind, Sem.run_pure, Result.andThen_ok, hl]
  exact hK _ _ h
structure KeepR (yB : Nat) (C T : Array Value) (m : Mach) (W0 : World) (vs vo : Value) (V : World) : Prop where
  y : V.heap[yB]? = some (.cells C 43 (0, 0))
  t : V.heap[yB + 1]? = some (.cells T 46 (0, 0))
  snap : SnapIn W0 V m vs vo
theorem KeepR.set {yB : Nat} {C T : Array Value} {m : Mach} {W0 : World} {vs vo : Value} {V V' : World} (h : KeepR yB C T m W0 vs vo V) {W1 : World} {xB k : Nat} {C1 : Array Value} {m0 : Mach} {vs1 vo1 v : Value} (hl : LawAt W1 xB C1 m0 vs1 vo1 V) (hn : xB < yB) (e : V.setCell ⟨xB, k, none⟩ v = V') : KeepR yB C T m W0 vs vo V' :=
  ⟨sc_oth (by omega) h.y e, sc_oth (by omega) h.t e, sc_snap h.snap (by decide) hl.x e⟩
set_option maxRecDepth 20000 in
set_option maxHeartbeats 8000000 in
theorem arith_pick (oa ob va vb f : Int) (w : World) (hoa : 0 ≤ oa ∧ oa < 256) (hob : 0 ≤ ob ∧ ob < 256) (ha : OkU16 va) (hb : OkU16 vb) (hf : 0 ≤ f ∧ f < 256) : Calls Try.prog 6 #[.agg #[.int .u8 oa, .int .u8 ob], .agg #[.int .u16 va, .int .u16 vb], .int .u8 f] w (EvPost w true) := by
  have HVA := Lib.hid ha
  have HVB := Lib.hid hb
  obtain ⟨j, hj⟩ : ∃ j, oa % 15 = j := ⟨_, rfl⟩
  obtain ⟨k, hk⟩ : ∃ k, ob % 3 = k := ⟨_, rfl⟩
  obtain ⟨f4, hf4⟩ : ∃ f4, f % 16 = f4 := ⟨_, rfl⟩
  have HJ : Hid (0 ≤ j ∧ j ≤ 14) := Lib.hid (by omega)
  have HF4 : Hid (0 ≤ f4 ∧ f4 < 16) := Lib.hid (by omega)
  have q0 : oa.tmod 15 = j := by rw [Int.tmod_eq_emod_of_nonneg hoa.1]; exact hj
  have q1 : IntKind.u8.wrap j = j := by rw [IntKind.wrap_u8]; omega
  have q2 : IntKind.i64.wrap j = j := IntWalk.i64_in _ (by omega)
  have q3 : IntKind.i64.wrap (32 + j) = 32 + j := IntWalk.i64_in _ (by omega)
  have q4 : ob.tmod 3 = k := by rw [Int.tmod_eq_emod_of_nonneg hob.1]; exact hk
  have q5 : f.tmod 16 = f4 := by rw [Int.tmod_eq_emod_of_nonneg hf.1]; exact hf4
  have q6 : IntKind.u8.wrap f4 = f4 := by rw [IntKind.wrap_u8]; omega
  have q7 : IntKind.u16.wrap f4 = f4 := by rw [IntKind.wrap_u16]; omega
  have q8 : IntKind.u8.wrap vb = vb % 256 := by rw [IntKind.wrap_u8]
  have hk3 : k = 0 ∨ k = 1 ∨ k = 2 := by omega
  clear hoa hob ha hb hf hj hk hf4
  go_enter Try.func6, Try.ntmps6
  go_upto_region 1 with (fail)
  generalize e0 : (w.alloc _).alloc _ = W0
  obtain ⟨hO, hV, hb0⟩ := two_blks _ _ _ _ e0
  have HO0 := Lib.hid hO
  have HV0 := Lib.hid hV
  have HB0 := Lib.hid hb0
  clear e0 hO hV hb0
  go_wp2_with fail
  refine (sanity_any _).mono ?_
  rintro e w1 ⟨rfl, h1⟩
  have HB1 := Lib.hid (below_next HB0.out h1)
  have HV1 := Lib.hid (at_next h1 HV0.out)
  have ho1 := at_next h1 HO0.out
  have o0 : w1.cell? ⟨w.heap.size, 0, none⟩ = some (.int .u8 oa) := Lib.cell_of_heap ho1 0
  have o1 : w1.cell? ⟨w.heap.size, 1, none⟩ = some (.int .u8 ob) := Lib.cell_of_heap ho1 1
  have v1 : w1.cell? ⟨w.heap.size + 1, 1, none⟩ = some (.int .u16 vb) := Lib.cell_of_heap HV1.out 1
  clear h1 ho1 HB0 HO0 HV0
  rcases hk3 with rfl | rfl | rfl
  · have x1 : IntKind.i64.wrap (32 + j) = (32 + j) := IntWalk.i64_in _ (by have := HJ.out; omega)
    have HEA : Hid (EncA (32 + j) 2 j 2 0) := Lib.hid ⟨⟨.inl rfl, HJ.out.1, HJ.out.2, by omega⟩, ok16_0, by omega, fun _ => ⟨rfl, rfl⟩, fun e => absurd e (by decide), fun e => absurd e (by decide)⟩
    have HBO : Hid (OkU16 vb) := Lib.hid HVB.out
    go_upto_region 5 with (fail)
    generalize e2 : w1.alloc _ = W2
    have HI2 : Hid (W2.heap[w1.heap.size]? = some (.cells #[.int .i64 (32 + j), .int .i64 1, .int .i64 0, .int .u16 0, .int .u16 0, .int .i64 0, .int .i64 2] 26 (0, 0))) := Lib.hid (al_blk e2)
    have HV2 := Lib.hid (at_next (al_bel e2) HV1.out)
    have HB2 := Lib.hid (below_next HB1.out (al_bel e2))
    have HL2 : Hid (w.heap.size ≤ w1.heap.size ∧ w1.heap.size ≠ w.heap.size + 1) := Lib.hid ⟨HB1.out.size, by have := at_lt HV1.out; omega⟩
    clear e2 o0 o1 v1 x1 HV1 HB1
    have v1 : W2.cell? ⟨w.heap.size + 1, 1, none⟩ = some (.int .u16 vb) := Lib.cell_of_heap HV2.out 1
    have y0 : W2.cell? ⟨w1.heap.size, 2, none⟩ = some (.int .i64 0) := Lib.cell_of_heap HI2.out 2
    have z0 := at_fr HI2.out 2
    go_upto_region 13 with (fail)
    generalize e4 : World.setCell _ _ _ = W4
    have HI4 : Hid (W4.heap[w1.heap.size]? = some (.cells #[.int .i64 (32 + j), .int .i64 1, .int .i64 2, .int .u16 0, .int .u16 0, .int .i64 0, .int .i64 2] 26 (0, 0))) := Lib.hid (by
      have h9 := sc_blk HI2.out e4
      simp only [lA, lZ, lS] at h9
      exact h9)
    have HV4 := Lib.hid (sc_oth HL2.out.2 HV2.out e4)
    have HB4 := Lib.hid (sc_bel HB2.out HL2.out.1 e4)
    clear e4 y0 z0 v1 HI2 HV2 HB2
    have v1 : W4.cell? ⟨w.heap.size + 1, 1, none⟩ = some (.int .u16 vb) := Lib.cell_of_heap HV4.out 1
    obtain ⟨bb, hbb⟩ : ∃ bb : Int, vb = bb := ⟨_, rfl⟩
    obtain ⟨op, hop⟩ : ∃ op : Int, (32 + j) = op := ⟨_, rfl⟩
    have HQB : Hid ((2 : Int) ≠ 2 → 0 = bb) := Lib.hid (by intro e; exact absurd rfl e)
    rw [hop] at HEA HI4
    rw [hbb] at HBO
    try rw [hbb]
    try rw [hop]
    have HC4 : Hid (∀ W, Calls Try.prog 11 #[.agg #[.int .i64 op, .int .i64 1, .int .i64 2, .int .u16 0, .int .u16 0, .int .i64 0, .int .i64 2]] W (fun e w' => e = .returned (.tuple #[.string (rencAB op 2 2 0), .int .i64 0]) ∧ Below W.heap.size W w')) := Lib.hid fun W => rencode_ar op 2 j 2 0 W HEA.out
    have i0 : W4.cell? ⟨w1.heap.size, 0, none⟩ = some (.int .i64 op) := Lib.cell_of_heap HI4.out 0
    have i1 : W4.cell? ⟨w1.heap.size, 1, none⟩ = some (.int .i64 1) := Lib.cell_of_heap HI4.out 1
    have i2 : W4.cell? ⟨w1.heap.size, 2, none⟩ = some (.int .i64 2) := Lib.cell_of_heap HI4.out 2
    have i3 : W4.cell? ⟨w1.heap.size, 3, none⟩ = some (.int .u16 0) := Lib.cell_of_heap HI4.out 3
    have i4 : W4.cell? ⟨w1.heap.size, 4, none⟩ = some (.int .u16 0) := Lib.cell_of_heap HI4.out 4
    have i5 : W4.cell? ⟨w1.heap.size, 5, none⟩ = some (.int .i64 0) := Lib.cell_of_heap HI4.out 5
    have i6 : W4.cell? ⟨w1.heap.size, 6, none⟩ = some (.int .i64 2) := Lib.cell_of_heap HI4.out 6
    go_wp2_with fail
    refine (HC4.out _).mono ?_
    rintro e w5 ⟨rfl, h5⟩
    have HI5 := Lib.hid (at_next h5 HI4.out)
    have HV5 := Lib.hid (at_next h5 HV4.out)
    have HB5 := Lib.hid (below_next HB4.out h5)
    obtain ⟨CB, hCB⟩ : ∃ CB, rencAB op 2 2 0 = CB := ⟨_, rfl⟩
    have HCB := Lib.hid hCB
    have HCZ : Hid (CB.size ≤ 1000000000000) := Lib.hid (by
      rw [← hCB]
      show (bytesI (rencA op 2 2 0)).toArray.size ≤ 1000000000000
      rw [List.size_toArray, bytesI, List.length_map]
      have := (rencA_len op 2 2 0).2
      omega)
    rw [hCB]
    clear h5 hCB i0 i1 i2 i3 i4 i5 i6 v1 HI4 HV4 HB4 HC4
    go_wp2_with fail
    refine (image_any2 CB _ HCZ.out).mono ?_
    rintro e w6 ⟨g3, rfl, hg6, hlo, h6⟩
    obtain ⟨PB, hPB⟩ : ∃ PB, pageB 0 CB = PB := ⟨_, rfl⟩
    have HZ : Hid (PB.size ≤ maxLen) := Lib.hid (by rw [← hPB, pageB_size]; decide)
    have HPB := Lib.hid hPB
    rw [hPB] at hg6
    have HB6 := Lib.hid (below_next HB5.out h6)
    have HV6 := Lib.hid (at_next h6 HV5.out)
    have HJ6 := Lib.hid (at_next h6 HI5.out)
    have HG6 := Lib.hid hg6
    clear h6 hPB hg6 hlo HB5 HV5 HI5
    go_upto_region 17 with (fail)
    generalize e7 : w6.alloc _ = W7
    have hb7 := al_bel e7
    have HI7 := Lib.hid (al_blk e7)
    have HB7 := Lib.hid (below_next HB6.out hb7)
    have HV7 := Lib.hid (at_next hb7 HV6.out)
    have HJ7 := Lib.hid (at_next hb7 HJ6.out)
    have HG7 := Lib.hid (at_next hb7 HG6.out)
    clear hb7 e7 HV6 HJ6 HG6
    go_wp2_with (refine wpList_load_row 35 _ rfl rfl w6.heap.size rfl #[.slice (some ⟨g3, 0, none⟩) 1 1, .int .u16 0, .int .u16 0, .slice none 0 0, .slice none 0 0] HI7.out Try.underlying35 info35 ?_)
    refine (refStart_any (E := imgE g3 PB) ⟨strs_one HG7.out HZ.out, (by decide : 1 ≤ maxLen), ok16_0, ok16_0⟩).mono ?_
    rintro e w8 ⟨C8, rfl, hs8, h8⟩
    obtain ⟨p1, c1, p2, c2, rfl, hin8⟩ := hs8.cells
    obtain ⟨RS, hRS⟩ : ∃ RS, ramS (fun _ => 0) = RS := ⟨_, rfl⟩
    have HRS := Lib.hid hRS
    rw [hRS]
    have HH8 := Lib.hid h8
    have HIN8 := Lib.hid hin8
    clear hs8 h8 hin8 hRS
    go_wp2_with (refine wpList_store_row 43 _ _ rfl rfl w8.heap.size rfl (snC (startM 0) RS (.slice p1 2 c1) (.slice p2 0 c2)) rfl (alloc_at w8 _) info43 rfl (snC_one _ _ _ _ _ _ _ _) ?_; refine Hid.out ?_)
    generalize e9 : World.setRow _ _ _ = W9
    have HL9 := Lib.hid (law_start HH8.out HIN8.out rfl e9)
    refine Lib.hid ?_
    clear e9 HH8 HIN8
    have v0 : W9.cell? ⟨w.heap.size + 1, 0, none⟩ = some (.int .u16 va) := Lib.cell_of_heap (at_next HL9.out.bel HV7.out) 0
    have y0 : W9.cell? ⟨w8.heap.size, 1, none⟩ = some (.int .u16 0) := HL9.out.cell 1
    have z0 := at_fr HL9.out.x 1
    go_upto_region 19 with (fail)
    generalize e10 : World.setCell _ _ _ = W10
    have HL10 : Hid (LawAt W7 w8.heap.size (snC ({ startM 0 with R := setR (fun _ => 0) 1 va }) RS (.slice p1 2 c1) (.slice p2 0 c2)) (startM 0) (.slice p1 2 c1) (.slice p2 0 c2) W10) := Lib.hid (by
      have h := HL9.out.set e10
      simp only [snC, lA, lZ, lS] at h
      exact h)
    clear e10 HL9 y0 z0 v0
    have y0 : W10.cell? ⟨w8.heap.size, 2, none⟩ = some (.int .u16 0) := HL10.out.cell 2
    have z0 := at_fr HL10.out.x 2
    go_upto_region 20 with (fail)
    generalize e11 : World.setCell _ _ _ = W11
    have HL11 : Hid (LawAt W7 w8.heap.size (snC ({ startM 0 with R := aR va bb }) RS (.slice p1 2 c1) (.slice p2 0 c2)) (startM 0) (.slice p1 2 c1) (.slice p2 0 c2) W11) := Lib.hid (by
      have h := HL10.out.set e11
      simp only [snC, lA, lZ, lS] at h
      exact h)
    clear e11 HL10 y0 z0
    have y0 : W11.cell? ⟨w8.heap.size, 11, none⟩ = some (.int .u16 0) := HL11.out.cell 11
    have z0 := at_fr HL11.out.x 11
    go_upto_region 21 with (fail)
    generalize e12 : World.setCell _ _ _ = W12
    have HL12 : Hid (LawAt W7 w8.heap.size (snC (am va bb f4) RS (.slice p1 2 c1) (.slice p2 0 c2)) (startM 0) (.slice p1 2 c1) (.slice p2 0 c2) W12) := Lib.hid (by
      have h := HL11.out.set e12
      simp only [snC, lA, lZ, lS] at h
      exact h)
    clear e12 HL11 y0 z0
    have v0 : W12.cell? ⟨w.heap.size + 1, 0, none⟩ = some (.int .u16 va) := Lib.cell_of_heap (at_next HL12.out.bel HV7.out) 0
    obtain ⟨r, fl, dv, hrr⟩ : ∃ r fl dv, arR (32 + j) va bb f4 = (r, fl, dv) := ⟨_, _, _, rfl⟩
    have HAR : Hid (∀ W, Calls Try.prog 16 #[.int .i64 op, .int .u16 va, .int .u16 bb, .int .u16 f4] W fun e w' => e = .returned (.tuple #[.int .u16 r, .int .u16 fl, .bool dv]) ∧ W = w') := Lib.hid fun W => by
      have h := arith_law (32 + j) va bb f4 W (by have := HJ.out; omega) (by have := HJ.out; omega) HVA.out.1 HVA.out.2 HBO.out.1 HBO.out.2 HF4.out.1 (by have := HF4.out; omega)
      unfold ArPost at h
      rw [hrr] at h
      rw [hop] at h
      exact h
    have HRR := Lib.hid hrr
    clear hrr
    obtain ⟨m9, hm9⟩ : ∃ m9, aend va bb f4 (32 + j) 2 = m9 := ⟨_, rfl⟩
    have HM9 := Lib.hid hm9
    clear hm9
    go_wp2_with fail
    refine (HAR.out _).mono ?_
    rintro e w13 ⟨rfl, rfl⟩
    clear v0 HAR
    have HX : Hid (Calls Try.prog 17 #[.agg #[.slice (some ⟨g3, 0, none⟩) 1 1, .int .u16 0, .int .u16 0, .slice none 0 0, .slice none 0 0], .agg #[.slice none 0 0, .slice none 0 0], .agg (snC (am va bb f4) RS (.slice p1 2 c1) (.slice p2 0 c2))] W12 (RanPost W12 (if dv = true then (am va bb f4, (4, 0)) else (m9, (0, 0))))) := Lib.hid (by
      obtain ⟨hni, hc2⟩ := law_in (E := imgE g3 PB) (m := am va bb f4) (strs_one (at_next HL12.out.bel HG7.out) HZ.out) HL12.out.snap rfl ⟨rfl, rfl, rfl, rfl⟩ (am_ok HVA.out HBO.out ⟨HF4.out.1, by have := HF4.out; omega⟩) (row_none _ _ _) (row_none _ _ _) (show 1 ≤ maxLen by decide) ok16_0 ok16_0 (Nat.zero_le _) (Nat.zero_le _) (fun x hx => by cases hx) (fun x hx => by cases hx)
      have hst := ar_step (E := imgE g3 PB) (a := va) (b := bb) (f := f4) HEA.out (by rw [← HPB.out, ← HCB.out]; rfl) HQB.out
      rw [HRR.out] at hst
      dsimp only at hst
      have hx := Step_any hni c1 c2 hc2 (show (0 : Nat) < 1000000000000 by decide)
      rw [norm_like rfl rfl rfl, hst, HRS.out, HM9.out] at hx
      exact hx)
    go_wp2_with (first | refine wpList_load_row 35 _ rfl rfl w6.heap.size rfl #[.slice (some ⟨g3, 0, none⟩) 1 1, .int .u16 0, .int .u16 0, .slice none 0 0, .slice none 0 0] (at_next HL12.out.bel HI7.out) Try.underlying35 info35 ?_ | refine wpList_load_row 43 _ rfl rfl w8.heap.size rfl (snC (am va bb f4) RS (.slice p1 2 c1) (.slice p2 0 c2)) HL12.out.x Try.underlying43 info43 ?_)
    cases dv
    · replace HX := Lib.hid (by have h := HX.out; rw [if_neg (by decide)] at h; exact h)
      refine HX.out.mono ?_
      rintro e w13 ⟨C13, rfl, hs13, h13⟩
      obtain ⟨p3, c3, p4, c4, rfl, hin13⟩ := hs13.cells
      have HS13 := Lib.hid hin13
      have HB13 := Lib.hid h13
      clear hs13 h13 hin13 HX
      go_wp2_with (refine wpList_store_row 43 _ _ rfl rfl w13.heap.size rfl (snC m9 (ramS m9.ram) (.slice p3 m9.st.length c3) (.slice p4 m9.out.length c4)) rfl (blk_mid1 w13 _ _) info43 rfl (snC_one _ _ _ _ _ _ _ _) ?_; refine Hid.out ?_)
      generalize e14 : World.setRow _ _ _ = W14
      have HR14 := Lib.hid ((ran_a HB13.out HS13.out rfl).row HB13.out.size e14)
      refine Lib.hid ?_
      clear e14
      go_wp2_with (refine wpList_store_row 46 _ _ rfl rfl (w13.heap.size + 1) rfl #[.int .i64 0, .int .u16 0] rfl HR14.out.t info46 rfl (by simp [Value.oneCell']) ?_; refine Hid.out ?_)
      generalize e15 : World.setRow _ _ _ = W15
      have HR15 := Lib.hid (HR14.out.row2 HB13.out.size e15)
      refine Lib.hid ?_
      clear e15 HR14
      have HLX := Lib.hid (HL12.out.next HR15.out.bel)
      have d0 : W15.cell? ⟨w13.heap.size + 1, 0, none⟩ = some (.int .i64 0) := Lib.cell_of_heap HR15.out.t 0
      have d1 : W15.cell? ⟨w13.heap.size + 1, 1, none⟩ = some (.int .u16 0) := Lib.cell_of_heap HR15.out.t 1
      clear d0 d1
      have HNX : Hid (w8.heap.size < w13.heap.size) := Lib.hid (Nat.lt_of_lt_of_le (at_lt HL12.out.x) HB13.out.size)
      have HK15 : Hid (KeepR w13.heap.size (snC m9 (ramS m9.ram) (.slice p3 m9.st.length c3) (.slice p4 m9.out.length c4)) #[.int .i64 0, .int .u16 0] m9 W12 (.slice p3 m9.st.length c3) (.slice p4 m9.out.length c4) W15) := Lib.hid ⟨HR15.out.y, HR15.out.t, HR15.out.snap⟩
      have HL15 : Hid (LawAt W7 w8.heap.size (snC (am va bb f4) RS (.slice p1 2 c1) (.slice p2 0 c2)) (startM 0) (.slice p1 2 c1) (.slice p2 0 c2) W15) := HLX
      clear HLX
      have y0 : W15.cell? ⟨w8.heap.size, 1, none⟩ = some (.int .u16 va) := HL15.out.cell 1
      have z0 := at_fr HL15.out.x 1
      go_upto_region 26 with (fail)
      generalize e16 : World.setCell _ _ _ = W16
      have HL16 : Hid (LawAt W7 w8.heap.size (snC ({ am va bb f4 with R := setR (aR va bb) 1 r }) RS (.slice p1 2 c1) (.slice p2 0 c2)) (startM 0) (.slice p1 2 c1) (.slice p2 0 c2) W16) := Lib.hid (by
        have h := HL15.out.set e16
        simp only [snC, lA, lZ, lS] at h
        exact h)
      have HK16 := Lib.hid (HK15.out.set HL15.out HNX.out e16)
      clear HK15 e16 HL15 y0 z0
      have y0 : W16.cell? ⟨w8.heap.size, 11, none⟩ = some (.int .u16 f4) := HL16.out.cell 11
      have z0 := at_fr HL16.out.x 11
      go_upto_region 27 with (fail)
      generalize e17 : World.setCell _ _ _ = W17
      have HL17 : Hid (LawAt W7 w8.heap.size (snC ({ am va bb f4 with R := setR (aR va bb) 1 r, f := fl }) RS (.slice p1 2 c1) (.slice p2 0 c2)) (startM 0) (.slice p1 2 c1) (.slice p2 0 c2) W17) := Lib.hid (by
        have h := HL16.out.set e17
        simp only [snC, lA, lZ, lS] at h
        exact h)
      have HK17 := Lib.hid (HK16.out.set HL16.out HNX.out e17)
      clear HK16 e17 HL16 y0 z0
      have i6 : W17.cell? ⟨w1.heap.size, 6, none⟩ = some (.int .i64 2) := Lib.cell_of_heap (at_next HL17.out.bel HJ7.out) 6
      have x8 : IntKind.u16.wrap (2 : Int) = 2 := by decide
      have y0 : W17.cell? ⟨w8.heap.size, 8, none⟩ = some (.int .u16 0) := HL17.out.cell 8
      have z0 := at_fr HL17.out.x 8
      go_upto_region 28 with (fail)
      generalize e18 : World.setCell _ _ _ = W18
      have HL18 : Hid (LawAt W7 w8.heap.size (snC ({ am va bb f4 with R := setR (aR va bb) 1 r, f := fl, pc := 2 }) RS (.slice p1 2 c1) (.slice p2 0 c2)) (startM 0) (.slice p1 2 c1) (.slice p2 0 c2) W18) := Lib.hid (by
        have h := HL17.out.set e18
        simp only [snC, lA, lZ, lS] at h
        exact h)
      have HK18 := Lib.hid (HK17.out.set HL17.out HNX.out e18)
      clear HK17 e18 HL17 y0 z0 i6 x8
      have y0 : W18.cell? ⟨w8.heap.size, 13, none⟩ = some (.int .i64 0) := HL18.out.cell 13
      have z0 := at_fr HL18.out.x 13
      go_upto_region 29 with (fail)
      generalize e19 : World.setCell _ _ _ = W19
      have HL19 : Hid (LawAt W7 w8.heap.size (snC ({ am va bb f4 with R := setR (aR va bb) 1 r, f := fl, pc := 2, steps := 1 }) RS (.slice p1 2 c1) (.slice p2 0 c2)) (startM 0) (.slice p1 2 c1) (.slice p2 0 c2) W19) := Lib.hid (by
        have h := HL18.out.set e19
        simp only [snC, lA, lZ, lS] at h
        exact h)
      have HK19 := Lib.hid (HK18.out.set HL18.out HNX.out e19)
      clear HK18 e19 HL18 y0 z0
      have HEQ : Hid (m9 = { am va bb f4 with R := setR (aR va bb) 1 r, f := fl, pc := 2, steps := 1 }) := Lib.hid (by
        rw [← HM9.out]
        unfold aend
        rw [HRR.out]
        rfl)
      have HSM := Lib.hid (same_ref (w := W19) (ma := m9) (mb := { am va bb f4 with R := setR (aR va bb) 1 r, f := fl, pc := 2, steps := 1 }) (Sa := ramS m9.ram) (Sb := RS) (load_of (m := m9) HK19.out.snap (by rw [HEQ.out]; show (2 : Nat) ≤ 4096; decide) (by rw [HEQ.out]; show (0 : Nat) ≤ 1000000000000; decide) (own_cap HK19.out.snap.st)) (load_of2 (n := { am va bb f4 with R := setR (aR va bb) 1 r, f := fl, pc := 2, steps := 1 }) HL19.out.snap rfl rfl rfl) (by rw [← HRS.out, HEQ.out]; rfl))
      have HBZ := Lib.hid (below_next HB7.out HL19.out.bel)
      have d0 : W19.cell? ⟨w13.heap.size + 1, 0, none⟩ = some (.int .i64 0) := Lib.cell_of_heap HK19.out.t 0
      go_wp2_with (first | refine wpList_load_rowg 43 _ rfl rfl w13.heap.size rfl (snC m9 (ramS m9.ram) (.slice p3 m9.st.length c3) (.slice p4 m9.out.length c4)) HK19.out.y Try.underlying43 info43 ?_ | refine wpList_load_rowg 43 _ rfl rfl w8.heap.size rfl (snC { am va bb f4 with R := setR (aR va bb) 1 r, f := fl, pc := 2, steps := 1 } RS (.slice p1 2 c1) (.slice p2 0 c2)) HL19.out.x Try.underlying43 info43 ?_)
      refine HSM.out.mono ?_
      rintro e w20 ⟨rfl, h20⟩
      have HBY := Lib.hid (below_next HBZ.out h20)
      clear h20 d0
      go_wp2_with fail
      exact bodyPost_ret (v := .bool true) (by simp [results, Try.results6, go_sem]) rfl ⟨rfl, HBY.out⟩
    · replace HX := Lib.hid (by have h := HX.out; rw [if_pos rfl] at h; exact h)
      refine HX.out.mono ?_
      rintro e w13 ⟨C13, rfl, hs13, h13⟩
      obtain ⟨p3, c3, p4, c4, rfl, hin13⟩ := hs13.cells
      have HS13 := Lib.hid hin13
      have HB13 := Lib.hid h13
      clear hs13 h13 hin13 HX
      go_wp2_with (refine wpList_store_row 43 _ _ rfl rfl w13.heap.size rfl (snC (am va bb f4) (ramS (am va bb f4).ram) (.slice p3 (am va bb f4).st.length c3) (.slice p4 (am va bb f4).out.length c4)) rfl (blk_mid1 w13 _ _) info43 rfl (snC_one _ _ _ _ _ _ _ _) ?_; refine Hid.out ?_)
      generalize e14 : World.setRow _ _ _ = W14
      have HR14 := Lib.hid ((ran_a HB13.out HS13.out rfl).row HB13.out.size e14)
      refine Lib.hid ?_
      clear e14
      go_wp2_with (refine wpList_store_row 46 _ _ rfl rfl (w13.heap.size + 1) rfl #[.int .i64 4, .int .u16 0] rfl HR14.out.t info46 rfl (by simp [Value.oneCell']) ?_; refine Hid.out ?_)
      generalize e15 : World.setRow _ _ _ = W15
      have HR15 := Lib.hid (HR14.out.row2 HB13.out.size e15)
      refine Lib.hid ?_
      clear e15 HR14
      have HLX := Lib.hid (HL12.out.next HR15.out.bel)
      have d0 : W15.cell? ⟨w13.heap.size + 1, 0, none⟩ = some (.int .i64 4) := Lib.cell_of_heap HR15.out.t 0
      have d1 : W15.cell? ⟨w13.heap.size + 1, 1, none⟩ = some (.int .u16 0) := Lib.cell_of_heap HR15.out.t 1
      have q46 : ∀ W, (binOp .eql 46 (.agg #[.int .i64 4, .int .u16 0]) (.agg #[.int .i64 4, .int .u16 0])).run Try.prog W = .ok (.bool true) W := fun W => by rw [eql46]; rfl
      have hg46 := guard46
      have HSM := Lib.hid (same_ref (w := W15) (ma := am va bb f4) (mb := am va bb f4) (Sa := ramS (am va bb f4).ram) (Sb := RS) (load_of2 (n := am va bb f4) HR15.out.snap rfl rfl rfl) (load_of2 (n := am va bb f4) HLX.out.snap rfl rfl rfl) (by rw [← HRS.out]; rfl))
      have HBZ := Lib.hid (below_next HB7.out HLX.out.bel)
      go_wp2_with (first | refine wpList_load_rowg 43 _ rfl rfl w13.heap.size rfl (snC (am va bb f4) (ramS (am va bb f4).ram) (.slice p3 (am va bb f4).st.length c3) (.slice p4 (am va bb f4).out.length c4)) HR15.out.y Try.underlying43 info43 ?_ | refine wpList_load_rowg 43 _ rfl rfl w8.heap.size rfl (snC (am va bb f4) RS (.slice p1 2 c1) (.slice p2 0 c2)) HLX.out.x Try.underlying43 info43 ?_)
      refine HSM.out.mono ?_
      rintro e w20 ⟨rfl, h20⟩
      have HBY := Lib.hid (below_next HBZ.out h20)
      clear h20 q46 hg46 d0 d1
      go_wp2_with fail
      exact bodyPost_ret (v := .bool true) (by simp [results, Try.results6, go_sem]) rfl ⟨rfl, HBY.out⟩
  · have x1 : IntKind.i64.wrap (32 + j + 16) = (32 + j + 16) := IntWalk.i64_in _ (by have := HJ.out; omega)
    have HEA : Hid (EncA (32 + j + 16) 3 j 0 (signI (vb % 256))) := Lib.hid ⟨⟨.inr (.inl rfl), HJ.out.1, HJ.out.2, by omega⟩, (sign_low _ (by omega) (by omega)).1, by omega, fun e => absurd e (by decide), fun _ => ⟨rfl, (sign_low _ (by omega) (by omega)).2⟩, fun e => absurd e (by decide)⟩
    have HBO : Hid (OkU16 (signI (vb % 256))) := Lib.hid (sign_low _ (by omega) (by omega)).1
    go_upto_region 5 with (fail)
    generalize e2 : w1.alloc _ = W2
    have HI2 : Hid (W2.heap[w1.heap.size]? = some (.cells #[.int .i64 (32 + j + 16), .int .i64 1, .int .i64 0, .int .u16 0, .int .u16 0, .int .i64 0, .int .i64 3] 26 (0, 0))) := Lib.hid (al_blk e2)
    have HV2 := Lib.hid (at_next (al_bel e2) HV1.out)
    have HB2 := Lib.hid (below_next HB1.out (al_bel e2))
    have HL2 : Hid (w.heap.size ≤ w1.heap.size ∧ w1.heap.size ≠ w.heap.size + 1) := Lib.hid ⟨HB1.out.size, by have := at_lt HV1.out; omega⟩
    clear e2 o0 o1 v1 x1 HV1 HB1
    have v1 : W2.cell? ⟨w.heap.size + 1, 1, none⟩ = some (.int .u16 vb) := Lib.cell_of_heap HV2.out 1
    go_wp2_with fail
    refine (rsign_any (vb % 256) _ (by omega) (by omega)).mono ?_
    rintro e w3 ⟨rfl, rfl⟩
    have y0 : W2.cell? ⟨w1.heap.size, 3, none⟩ = some (.int .u16 0) := Lib.cell_of_heap HI2.out 3
    have z0 := at_fr HI2.out 3
    go_upto_region 13 with (fail)
    generalize e4 : World.setCell _ _ _ = W4
    have HI4 : Hid (W4.heap[w1.heap.size]? = some (.cells #[.int .i64 (32 + j + 16), .int .i64 1, .int .i64 0, .int .u16 (signI (vb % 256)), .int .u16 0, .int .i64 0, .int .i64 3] 26 (0, 0))) := Lib.hid (by
      have h9 := sc_blk HI2.out e4
      simp only [lA, lZ, lS] at h9
      exact h9)
    have HV4 := Lib.hid (sc_oth HL2.out.2 HV2.out e4)
    have HB4 := Lib.hid (sc_bel HB2.out HL2.out.1 e4)
    clear e4 y0 z0 v1 HI2 HV2 HB2
    have v1 : W4.cell? ⟨w.heap.size + 1, 1, none⟩ = some (.int .u16 vb) := Lib.cell_of_heap HV4.out 1
    obtain ⟨bb, hbb⟩ : ∃ bb : Int, (signI (vb % 256)) = bb := ⟨_, rfl⟩
    obtain ⟨im, him⟩ : ∃ im : Int, (signI (vb % 256)) = im := ⟨_, rfl⟩
    obtain ⟨op, hop⟩ : ∃ op : Int, (32 + j + 16) = op := ⟨_, rfl⟩
    have HQB : Hid ((3 : Int) ≠ 2 → im = bb) := Lib.hid (by intro _; rw [← hbb, ← him])
    rw [him, hop] at HEA HI4
    rw [hbb] at HBO
    try rw [hbb]
    try rw [hop]
    have HC4 : Hid (∀ W, Calls Try.prog 11 #[.agg #[.int .i64 op, .int .i64 1, .int .i64 0, .int .u16 im, .int .u16 0, .int .i64 0, .int .i64 3]] W (fun e w' => e = .returned (.tuple #[.string (rencAB op 3 0 im), .int .i64 0]) ∧ Below W.heap.size W w')) := Lib.hid fun W => rencode_ar op 3 j 0 im W HEA.out
    have i0 : W4.cell? ⟨w1.heap.size, 0, none⟩ = some (.int .i64 op) := Lib.cell_of_heap HI4.out 0
    have i1 : W4.cell? ⟨w1.heap.size, 1, none⟩ = some (.int .i64 1) := Lib.cell_of_heap HI4.out 1
    have i2 : W4.cell? ⟨w1.heap.size, 2, none⟩ = some (.int .i64 0) := Lib.cell_of_heap HI4.out 2
    have i3 : W4.cell? ⟨w1.heap.size, 3, none⟩ = some (.int .u16 im) := Lib.cell_of_heap HI4.out 3
    have i4 : W4.cell? ⟨w1.heap.size, 4, none⟩ = some (.int .u16 0) := Lib.cell_of_heap HI4.out 4
    have i5 : W4.cell? ⟨w1.heap.size, 5, none⟩ = some (.int .i64 0) := Lib.cell_of_heap HI4.out 5
    have i6 : W4.cell? ⟨w1.heap.size, 6, none⟩ = some (.int .i64 3) := Lib.cell_of_heap HI4.out 6
    go_wp2_with fail
    refine (HC4.out _).mono ?_
    rintro e w5 ⟨rfl, h5⟩
    have HI5 := Lib.hid (at_next h5 HI4.out)
    have HV5 := Lib.hid (at_next h5 HV4.out)
    have HB5 := Lib.hid (below_next HB4.out h5)
    obtain ⟨CB, hCB⟩ : ∃ CB, rencAB op 3 0 im = CB := ⟨_, rfl⟩
    have HCB := Lib.hid hCB
    have HCZ : Hid (CB.size ≤ 1000000000000) := Lib.hid (by
      rw [← hCB]
      show (bytesI (rencA op 3 0 im)).toArray.size ≤ 1000000000000
      rw [List.size_toArray, bytesI, List.length_map]
      have := (rencA_len op 3 0 im).2
      omega)
    rw [hCB]
    clear h5 hCB i0 i1 i2 i3 i4 i5 i6 v1 HI4 HV4 HB4 HC4
    go_wp2_with fail
    refine (image_any2 CB _ HCZ.out).mono ?_
    rintro e w6 ⟨g3, rfl, hg6, hlo, h6⟩
    obtain ⟨PB, hPB⟩ : ∃ PB, pageB 0 CB = PB := ⟨_, rfl⟩
    have HZ : Hid (PB.size ≤ maxLen) := Lib.hid (by rw [← hPB, pageB_size]; decide)
    have HPB := Lib.hid hPB
    rw [hPB] at hg6
    have HB6 := Lib.hid (below_next HB5.out h6)
    have HV6 := Lib.hid (at_next h6 HV5.out)
    have HJ6 := Lib.hid (at_next h6 HI5.out)
    have HG6 := Lib.hid hg6
    clear h6 hPB hg6 hlo HB5 HV5 HI5
    go_upto_region 17 with (fail)
    generalize e7 : w6.alloc _ = W7
    have hb7 := al_bel e7
    have HI7 := Lib.hid (al_blk e7)
    have HB7 := Lib.hid (below_next HB6.out hb7)
    have HV7 := Lib.hid (at_next hb7 HV6.out)
    have HJ7 := Lib.hid (at_next hb7 HJ6.out)
    have HG7 := Lib.hid (at_next hb7 HG6.out)
    clear hb7 e7 HV6 HJ6 HG6
    go_wp2_with (refine wpList_load_row 35 _ rfl rfl w6.heap.size rfl #[.slice (some ⟨g3, 0, none⟩) 1 1, .int .u16 0, .int .u16 0, .slice none 0 0, .slice none 0 0] HI7.out Try.underlying35 info35 ?_)
    refine (refStart_any (E := imgE g3 PB) ⟨strs_one HG7.out HZ.out, (by decide : 1 ≤ maxLen), ok16_0, ok16_0⟩).mono ?_
    rintro e w8 ⟨C8, rfl, hs8, h8⟩
    obtain ⟨p1, c1, p2, c2, rfl, hin8⟩ := hs8.cells
    obtain ⟨RS, hRS⟩ : ∃ RS, ramS (fun _ => 0) = RS := ⟨_, rfl⟩
    have HRS := Lib.hid hRS
    rw [hRS]
    have HH8 := Lib.hid h8
    have HIN8 := Lib.hid hin8
    clear hs8 h8 hin8 hRS
    go_wp2_with (refine wpList_store_row 43 _ _ rfl rfl w8.heap.size rfl (snC (startM 0) RS (.slice p1 2 c1) (.slice p2 0 c2)) rfl (alloc_at w8 _) info43 rfl (snC_one _ _ _ _ _ _ _ _) ?_; refine Hid.out ?_)
    generalize e9 : World.setRow _ _ _ = W9
    have HL9 := Lib.hid (law_start HH8.out HIN8.out rfl e9)
    refine Lib.hid ?_
    clear e9 HH8 HIN8
    have v0 : W9.cell? ⟨w.heap.size + 1, 0, none⟩ = some (.int .u16 va) := Lib.cell_of_heap (at_next HL9.out.bel HV7.out) 0
    have y0 : W9.cell? ⟨w8.heap.size, 1, none⟩ = some (.int .u16 0) := HL9.out.cell 1
    have z0 := at_fr HL9.out.x 1
    go_upto_region 19 with (fail)
    generalize e10 : World.setCell _ _ _ = W10
    have HL10 : Hid (LawAt W7 w8.heap.size (snC ({ startM 0 with R := setR (fun _ => 0) 1 va }) RS (.slice p1 2 c1) (.slice p2 0 c2)) (startM 0) (.slice p1 2 c1) (.slice p2 0 c2) W10) := Lib.hid (by
      have h := HL9.out.set e10
      simp only [snC, lA, lZ, lS] at h
      exact h)
    clear e10 HL9 y0 z0 v0
    have y0 : W10.cell? ⟨w8.heap.size, 2, none⟩ = some (.int .u16 0) := HL10.out.cell 2
    have z0 := at_fr HL10.out.x 2
    go_upto_region 20 with (fail)
    generalize e11 : World.setCell _ _ _ = W11
    have HL11 : Hid (LawAt W7 w8.heap.size (snC ({ startM 0 with R := aR va bb }) RS (.slice p1 2 c1) (.slice p2 0 c2)) (startM 0) (.slice p1 2 c1) (.slice p2 0 c2) W11) := Lib.hid (by
      have h := HL10.out.set e11
      simp only [snC, lA, lZ, lS] at h
      exact h)
    clear e11 HL10 y0 z0
    have y0 : W11.cell? ⟨w8.heap.size, 11, none⟩ = some (.int .u16 0) := HL11.out.cell 11
    have z0 := at_fr HL11.out.x 11
    go_upto_region 21 with (fail)
    generalize e12 : World.setCell _ _ _ = W12
    have HL12 : Hid (LawAt W7 w8.heap.size (snC (am va bb f4) RS (.slice p1 2 c1) (.slice p2 0 c2)) (startM 0) (.slice p1 2 c1) (.slice p2 0 c2) W12) := Lib.hid (by
      have h := HL11.out.set e12
      simp only [snC, lA, lZ, lS] at h
      exact h)
    clear e12 HL11 y0 z0
    have v0 : W12.cell? ⟨w.heap.size + 1, 0, none⟩ = some (.int .u16 va) := Lib.cell_of_heap (at_next HL12.out.bel HV7.out) 0
    obtain ⟨r, fl, dv, hrr⟩ : ∃ r fl dv, arR (32 + j) va bb f4 = (r, fl, dv) := ⟨_, _, _, rfl⟩
    have HAR : Hid (∀ W, Calls Try.prog 16 #[.int .i64 (32 + j), .int .u16 va, .int .u16 bb, .int .u16 f4] W fun e w' => e = .returned (.tuple #[.int .u16 r, .int .u16 fl, .bool dv]) ∧ W = w') := Lib.hid fun W => by
      have h := arith_law (32 + j) va bb f4 W (by have := HJ.out; omega) (by have := HJ.out; omega) HVA.out.1 HVA.out.2 HBO.out.1 HBO.out.2 HF4.out.1 (by have := HF4.out; omega)
      unfold ArPost at h
      rw [hrr] at h
      exact h
    have HRR := Lib.hid hrr
    clear hrr
    obtain ⟨m9, hm9⟩ : ∃ m9, aend va bb f4 (32 + j) 3 = m9 := ⟨_, rfl⟩
    have HM9 := Lib.hid hm9
    clear hm9
    go_wp2_with fail
    refine (HAR.out _).mono ?_
    rintro e w13 ⟨rfl, rfl⟩
    clear v0 HAR
    have HX : Hid (Calls Try.prog 17 #[.agg #[.slice (some ⟨g3, 0, none⟩) 1 1, .int .u16 0, .int .u16 0, .slice none 0 0, .slice none 0 0], .agg #[.slice none 0 0, .slice none 0 0], .agg (snC (am va bb f4) RS (.slice p1 2 c1) (.slice p2 0 c2))] W12 (RanPost W12 (if dv = true then (am va bb f4, (4, 0)) else (m9, (0, 0))))) := Lib.hid (by
      obtain ⟨hni, hc2⟩ := law_in (E := imgE g3 PB) (m := am va bb f4) (strs_one (at_next HL12.out.bel HG7.out) HZ.out) HL12.out.snap rfl ⟨rfl, rfl, rfl, rfl⟩ (am_ok HVA.out HBO.out ⟨HF4.out.1, by have := HF4.out; omega⟩) (row_none _ _ _) (row_none _ _ _) (show 1 ≤ maxLen by decide) ok16_0 ok16_0 (Nat.zero_le _) (Nat.zero_le _) (fun x hx => by cases hx) (fun x hx => by cases hx)
      have hst := ar_step (E := imgE g3 PB) (a := va) (b := bb) (f := f4) HEA.out (by rw [← HPB.out, ← HCB.out]; rfl) HQB.out
      rw [HRR.out] at hst
      dsimp only at hst
      have hx := Step_any hni c1 c2 hc2 (show (0 : Nat) < 1000000000000 by decide)
      rw [norm_like rfl rfl rfl, hst, HRS.out, HM9.out] at hx
      exact hx)
    go_wp2_with (first | refine wpList_load_row 35 _ rfl rfl w6.heap.size rfl #[.slice (some ⟨g3, 0, none⟩) 1 1, .int .u16 0, .int .u16 0, .slice none 0 0, .slice none 0 0] (at_next HL12.out.bel HI7.out) Try.underlying35 info35 ?_ | refine wpList_load_row 43 _ rfl rfl w8.heap.size rfl (snC (am va bb f4) RS (.slice p1 2 c1) (.slice p2 0 c2)) HL12.out.x Try.underlying43 info43 ?_)
    cases dv
    · replace HX := Lib.hid (by have h := HX.out; rw [if_neg (by decide)] at h; exact h)
      refine HX.out.mono ?_
      rintro e w13 ⟨C13, rfl, hs13, h13⟩
      obtain ⟨p3, c3, p4, c4, rfl, hin13⟩ := hs13.cells
      have HS13 := Lib.hid hin13
      have HB13 := Lib.hid h13
      clear hs13 h13 hin13 HX
      go_wp2_with (refine wpList_store_row 43 _ _ rfl rfl w13.heap.size rfl (snC m9 (ramS m9.ram) (.slice p3 m9.st.length c3) (.slice p4 m9.out.length c4)) rfl (blk_mid1 w13 _ _) info43 rfl (snC_one _ _ _ _ _ _ _ _) ?_; refine Hid.out ?_)
      generalize e14 : World.setRow _ _ _ = W14
      have HR14 := Lib.hid ((ran_a HB13.out HS13.out rfl).row HB13.out.size e14)
      refine Lib.hid ?_
      clear e14
      go_wp2_with (refine wpList_store_row 46 _ _ rfl rfl (w13.heap.size + 1) rfl #[.int .i64 0, .int .u16 0] rfl HR14.out.t info46 rfl (by simp [Value.oneCell']) ?_; refine Hid.out ?_)
      generalize e15 : World.setRow _ _ _ = W15
      have HR15 := Lib.hid (HR14.out.row2 HB13.out.size e15)
      refine Lib.hid ?_
      clear e15 HR14
      have HLX := Lib.hid (HL12.out.next HR15.out.bel)
      have d0 : W15.cell? ⟨w13.heap.size + 1, 0, none⟩ = some (.int .i64 0) := Lib.cell_of_heap HR15.out.t 0
      have d1 : W15.cell? ⟨w13.heap.size + 1, 1, none⟩ = some (.int .u16 0) := Lib.cell_of_heap HR15.out.t 1
      clear d0 d1
      have HNX : Hid (w8.heap.size < w13.heap.size) := Lib.hid (Nat.lt_of_lt_of_le (at_lt HL12.out.x) HB13.out.size)
      have HK15 : Hid (KeepR w13.heap.size (snC m9 (ramS m9.ram) (.slice p3 m9.st.length c3) (.slice p4 m9.out.length c4)) #[.int .i64 0, .int .u16 0] m9 W12 (.slice p3 m9.st.length c3) (.slice p4 m9.out.length c4) W15) := Lib.hid ⟨HR15.out.y, HR15.out.t, HR15.out.snap⟩
      have HL15 : Hid (LawAt W7 w8.heap.size (snC (am va bb f4) RS (.slice p1 2 c1) (.slice p2 0 c2)) (startM 0) (.slice p1 2 c1) (.slice p2 0 c2) W15) := HLX
      clear HLX
      have y0 : W15.cell? ⟨w8.heap.size, 1, none⟩ = some (.int .u16 va) := HL15.out.cell 1
      have z0 := at_fr HL15.out.x 1
      go_upto_region 26 with (fail)
      generalize e16 : World.setCell _ _ _ = W16
      have HL16 : Hid (LawAt W7 w8.heap.size (snC ({ am va bb f4 with R := setR (aR va bb) 1 r }) RS (.slice p1 2 c1) (.slice p2 0 c2)) (startM 0) (.slice p1 2 c1) (.slice p2 0 c2) W16) := Lib.hid (by
        have h := HL15.out.set e16
        simp only [snC, lA, lZ, lS] at h
        exact h)
      have HK16 := Lib.hid (HK15.out.set HL15.out HNX.out e16)
      clear HK15 e16 HL15 y0 z0
      have y0 : W16.cell? ⟨w8.heap.size, 11, none⟩ = some (.int .u16 f4) := HL16.out.cell 11
      have z0 := at_fr HL16.out.x 11
      go_upto_region 27 with (fail)
      generalize e17 : World.setCell _ _ _ = W17
      have HL17 : Hid (LawAt W7 w8.heap.size (snC ({ am va bb f4 with R := setR (aR va bb) 1 r, f := fl }) RS (.slice p1 2 c1) (.slice p2 0 c2)) (startM 0) (.slice p1 2 c1) (.slice p2 0 c2) W17) := Lib.hid (by
        have h := HL16.out.set e17
        simp only [snC, lA, lZ, lS] at h
        exact h)
      have HK17 := Lib.hid (HK16.out.set HL16.out HNX.out e17)
      clear HK16 e17 HL16 y0 z0
      have i6 : W17.cell? ⟨w1.heap.size, 6, none⟩ = some (.int .i64 3) := Lib.cell_of_heap (at_next HL17.out.bel HJ7.out) 6
      have x8 : IntKind.u16.wrap (3 : Int) = 3 := by decide
      have y0 : W17.cell? ⟨w8.heap.size, 8, none⟩ = some (.int .u16 0) := HL17.out.cell 8
      have z0 := at_fr HL17.out.x 8
      go_upto_region 28 with (fail)
      generalize e18 : World.setCell _ _ _ = W18
      have HL18 : Hid (LawAt W7 w8.heap.size (snC ({ am va bb f4 with R := setR (aR va bb) 1 r, f := fl, pc := 3 }) RS (.slice p1 2 c1) (.slice p2 0 c2)) (startM 0) (.slice p1 2 c1) (.slice p2 0 c2) W18) := Lib.hid (by
        have h := HL17.out.set e18
        simp only [snC, lA, lZ, lS] at h
        exact h)
      have HK18 := Lib.hid (HK17.out.set HL17.out HNX.out e18)
      clear HK17 e18 HL17 y0 z0 i6 x8
      have y0 : W18.cell? ⟨w8.heap.size, 13, none⟩ = some (.int .i64 0) := HL18.out.cell 13
      have z0 := at_fr HL18.out.x 13
      go_upto_region 29 with (fail)
      generalize e19 : World.setCell _ _ _ = W19
      have HL19 : Hid (LawAt W7 w8.heap.size (snC ({ am va bb f4 with R := setR (aR va bb) 1 r, f := fl, pc := 3, steps := 1 }) RS (.slice p1 2 c1) (.slice p2 0 c2)) (startM 0) (.slice p1 2 c1) (.slice p2 0 c2) W19) := Lib.hid (by
        have h := HL18.out.set e19
        simp only [snC, lA, lZ, lS] at h
        exact h)
      have HK19 := Lib.hid (HK18.out.set HL18.out HNX.out e19)
      clear HK18 e19 HL18 y0 z0
      have HEQ : Hid (m9 = { am va bb f4 with R := setR (aR va bb) 1 r, f := fl, pc := 3, steps := 1 }) := Lib.hid (by
        rw [← HM9.out]
        unfold aend
        rw [HRR.out]
        rfl)
      have HSM := Lib.hid (same_ref (w := W19) (ma := m9) (mb := { am va bb f4 with R := setR (aR va bb) 1 r, f := fl, pc := 3, steps := 1 }) (Sa := ramS m9.ram) (Sb := RS) (load_of (m := m9) HK19.out.snap (by rw [HEQ.out]; show (2 : Nat) ≤ 4096; decide) (by rw [HEQ.out]; show (0 : Nat) ≤ 1000000000000; decide) (own_cap HK19.out.snap.st)) (load_of2 (n := { am va bb f4 with R := setR (aR va bb) 1 r, f := fl, pc := 3, steps := 1 }) HL19.out.snap rfl rfl rfl) (by rw [← HRS.out, HEQ.out]; rfl))
      have HBZ := Lib.hid (below_next HB7.out HL19.out.bel)
      have d0 : W19.cell? ⟨w13.heap.size + 1, 0, none⟩ = some (.int .i64 0) := Lib.cell_of_heap HK19.out.t 0
      go_wp2_with (first | refine wpList_load_rowg 43 _ rfl rfl w13.heap.size rfl (snC m9 (ramS m9.ram) (.slice p3 m9.st.length c3) (.slice p4 m9.out.length c4)) HK19.out.y Try.underlying43 info43 ?_ | refine wpList_load_rowg 43 _ rfl rfl w8.heap.size rfl (snC { am va bb f4 with R := setR (aR va bb) 1 r, f := fl, pc := 3, steps := 1 } RS (.slice p1 2 c1) (.slice p2 0 c2)) HL19.out.x Try.underlying43 info43 ?_)
      refine HSM.out.mono ?_
      rintro e w20 ⟨rfl, h20⟩
      have HBY := Lib.hid (below_next HBZ.out h20)
      clear h20 d0
      go_wp2_with fail
      exact bodyPost_ret (v := .bool true) (by simp [results, Try.results6, go_sem]) rfl ⟨rfl, HBY.out⟩
    · replace HX := Lib.hid (by have h := HX.out; rw [if_pos rfl] at h; exact h)
      refine HX.out.mono ?_
      rintro e w13 ⟨C13, rfl, hs13, h13⟩
      obtain ⟨p3, c3, p4, c4, rfl, hin13⟩ := hs13.cells
      have HS13 := Lib.hid hin13
      have HB13 := Lib.hid h13
      clear hs13 h13 hin13 HX
      go_wp2_with (refine wpList_store_row 43 _ _ rfl rfl w13.heap.size rfl (snC (am va bb f4) (ramS (am va bb f4).ram) (.slice p3 (am va bb f4).st.length c3) (.slice p4 (am va bb f4).out.length c4)) rfl (blk_mid1 w13 _ _) info43 rfl (snC_one _ _ _ _ _ _ _ _) ?_; refine Hid.out ?_)
      generalize e14 : World.setRow _ _ _ = W14
      have HR14 := Lib.hid ((ran_a HB13.out HS13.out rfl).row HB13.out.size e14)
      refine Lib.hid ?_
      clear e14
      go_wp2_with (refine wpList_store_row 46 _ _ rfl rfl (w13.heap.size + 1) rfl #[.int .i64 4, .int .u16 0] rfl HR14.out.t info46 rfl (by simp [Value.oneCell']) ?_; refine Hid.out ?_)
      generalize e15 : World.setRow _ _ _ = W15
      have HR15 := Lib.hid (HR14.out.row2 HB13.out.size e15)
      refine Lib.hid ?_
      clear e15 HR14
      have HLX := Lib.hid (HL12.out.next HR15.out.bel)
      have d0 : W15.cell? ⟨w13.heap.size + 1, 0, none⟩ = some (.int .i64 4) := Lib.cell_of_heap HR15.out.t 0
      have d1 : W15.cell? ⟨w13.heap.size + 1, 1, none⟩ = some (.int .u16 0) := Lib.cell_of_heap HR15.out.t 1
      have q46 : ∀ W, (binOp .eql 46 (.agg #[.int .i64 4, .int .u16 0]) (.agg #[.int .i64 4, .int .u16 0])).run Try.prog W = .ok (.bool true) W := fun W => by rw [eql46]; rfl
      have hg46 := guard46
      have HSM := Lib.hid (same_ref (w := W15) (ma := am va bb f4) (mb := am va bb f4) (Sa := ramS (am va bb f4).ram) (Sb := RS) (load_of2 (n := am va bb f4) HR15.out.snap rfl rfl rfl) (load_of2 (n := am va bb f4) HLX.out.snap rfl rfl rfl) (by rw [← HRS.out]; rfl))
      have HBZ := Lib.hid (below_next HB7.out HLX.out.bel)
      go_wp2_with (first | refine wpList_load_rowg 43 _ rfl rfl w13.heap.size rfl (snC (am va bb f4) (ramS (am va bb f4).ram) (.slice p3 (am va bb f4).st.length c3) (.slice p4 (am va bb f4).out.length c4)) HR15.out.y Try.underlying43 info43 ?_ | refine wpList_load_rowg 43 _ rfl rfl w8.heap.size rfl (snC (am va bb f4) RS (.slice p1 2 c1) (.slice p2 0 c2)) HLX.out.x Try.underlying43 info43 ?_)
      refine HSM.out.mono ?_
      rintro e w20 ⟨rfl, h20⟩
      have HBY := Lib.hid (below_next HBZ.out h20)
      clear h20 q46 hg46 d0 d1
      go_wp2_with fail
      exact bodyPost_ret (v := .bool true) (by simp [results, Try.results6, go_sem]) rfl ⟨rfl, HBY.out⟩
  · have x1 : IntKind.i64.wrap (32 + j + 32) = (32 + j + 32) := IntWalk.i64_in _ (by have := HJ.out; omega)
    have HEA : Hid (EncA (32 + j + 32) 4 j 0 vb) := Lib.hid ⟨⟨.inr (.inr rfl), HJ.out.1, HJ.out.2, by omega⟩, HVB.out, by omega, fun e => absurd e (by decide), fun e => absurd e (by decide), fun _ => rfl⟩
    have HBO : Hid (OkU16 vb) := Lib.hid HVB.out
    go_upto_region 5 with (fail)
    generalize e2 : w1.alloc _ = W2
    have HI2 : Hid (W2.heap[w1.heap.size]? = some (.cells #[.int .i64 (32 + j + 32), .int .i64 1, .int .i64 0, .int .u16 0, .int .u16 0, .int .i64 0, .int .i64 4] 26 (0, 0))) := Lib.hid (al_blk e2)
    have HV2 := Lib.hid (at_next (al_bel e2) HV1.out)
    have HB2 := Lib.hid (below_next HB1.out (al_bel e2))
    have HL2 : Hid (w.heap.size ≤ w1.heap.size ∧ w1.heap.size ≠ w.heap.size + 1) := Lib.hid ⟨HB1.out.size, by have := at_lt HV1.out; omega⟩
    clear e2 o0 o1 v1 x1 HV1 HB1
    have v1 : W2.cell? ⟨w.heap.size + 1, 1, none⟩ = some (.int .u16 vb) := Lib.cell_of_heap HV2.out 1
    have y0 : W2.cell? ⟨w1.heap.size, 3, none⟩ = some (.int .u16 0) := Lib.cell_of_heap HI2.out 3
    have z0 := at_fr HI2.out 3
    go_upto_region 12 with (fail)
    generalize e3 : World.setCell _ _ _ = W3
    have HI3 : Hid (W3.heap[w1.heap.size]? = some (.cells #[.int .i64 (32 + j + 32), .int .i64 1, .int .i64 0, .int .u16 vb, .int .u16 0, .int .i64 0, .int .i64 4] 26 (0, 0))) := Lib.hid (by
      have h9 := sc_blk HI2.out e3
      simp only [lA, lZ, lS] at h9
      exact h9)
    have HV3 := Lib.hid (sc_oth HL2.out.2 HV2.out e3)
    have HB3 := Lib.hid (sc_bel HB2.out HL2.out.1 e3)
    clear e3 y0 z0 v1 HI2 HV2 HB2
    have v1 : W3.cell? ⟨w.heap.size + 1, 1, none⟩ = some (.int .u16 vb) := Lib.cell_of_heap HV3.out 1
    have y0 : W3.cell? ⟨w1.heap.size, 6, none⟩ = some (.int .i64 4) := Lib.cell_of_heap HI3.out 6
    have z0 := at_fr HI3.out 6
    go_upto_region 13 with (fail)
    generalize e4 : World.setCell _ _ _ = W4
    have HI4 : Hid (W4.heap[w1.heap.size]? = some (.cells #[.int .i64 (32 + j + 32), .int .i64 1, .int .i64 0, .int .u16 vb, .int .u16 0, .int .i64 0, .int .i64 4] 26 (0, 0))) := Lib.hid (by
      have h9 := sc_blk HI3.out e4
      simp only [lA, lZ, lS] at h9
      exact h9)
    have HV4 := Lib.hid (sc_oth HL2.out.2 HV3.out e4)
    have HB4 := Lib.hid (sc_bel HB3.out HL2.out.1 e4)
    clear e4 y0 z0 v1 HI3 HV3 HB3
    have v1 : W4.cell? ⟨w.heap.size + 1, 1, none⟩ = some (.int .u16 vb) := Lib.cell_of_heap HV4.out 1
    obtain ⟨bb, hbb⟩ : ∃ bb : Int, vb = bb := ⟨_, rfl⟩
    obtain ⟨im, him⟩ : ∃ im : Int, vb = im := ⟨_, rfl⟩
    obtain ⟨op, hop⟩ : ∃ op : Int, (32 + j + 32) = op := ⟨_, rfl⟩
    have HQB : Hid ((4 : Int) ≠ 2 → im = bb) := Lib.hid (by intro _; rw [← hbb, ← him])
    rw [him, hop] at HEA HI4
    rw [hbb] at HBO
    try rw [hbb]
    try rw [hop]
    have HC4 : Hid (∀ W, Calls Try.prog 11 #[.agg #[.int .i64 op, .int .i64 1, .int .i64 0, .int .u16 im, .int .u16 0, .int .i64 0, .int .i64 4]] W (fun e w' => e = .returned (.tuple #[.string (rencAB op 4 0 im), .int .i64 0]) ∧ Below W.heap.size W w')) := Lib.hid fun W => rencode_ar op 4 j 0 im W HEA.out
    have i0 : W4.cell? ⟨w1.heap.size, 0, none⟩ = some (.int .i64 op) := Lib.cell_of_heap HI4.out 0
    have i1 : W4.cell? ⟨w1.heap.size, 1, none⟩ = some (.int .i64 1) := Lib.cell_of_heap HI4.out 1
    have i2 : W4.cell? ⟨w1.heap.size, 2, none⟩ = some (.int .i64 0) := Lib.cell_of_heap HI4.out 2
    have i3 : W4.cell? ⟨w1.heap.size, 3, none⟩ = some (.int .u16 im) := Lib.cell_of_heap HI4.out 3
    have i4 : W4.cell? ⟨w1.heap.size, 4, none⟩ = some (.int .u16 0) := Lib.cell_of_heap HI4.out 4
    have i5 : W4.cell? ⟨w1.heap.size, 5, none⟩ = some (.int .i64 0) := Lib.cell_of_heap HI4.out 5
    have i6 : W4.cell? ⟨w1.heap.size, 6, none⟩ = some (.int .i64 4) := Lib.cell_of_heap HI4.out 6
    go_wp2_with fail
    refine (HC4.out _).mono ?_
    rintro e w5 ⟨rfl, h5⟩
    have HI5 := Lib.hid (at_next h5 HI4.out)
    have HV5 := Lib.hid (at_next h5 HV4.out)
    have HB5 := Lib.hid (below_next HB4.out h5)
    obtain ⟨CB, hCB⟩ : ∃ CB, rencAB op 4 0 im = CB := ⟨_, rfl⟩
    have HCB := Lib.hid hCB
    have HCZ : Hid (CB.size ≤ 1000000000000) := Lib.hid (by
      rw [← hCB]
      show (bytesI (rencA op 4 0 im)).toArray.size ≤ 1000000000000
      rw [List.size_toArray, bytesI, List.length_map]
      have := (rencA_len op 4 0 im).2
      omega)
    rw [hCB]
    clear h5 hCB i0 i1 i2 i3 i4 i5 i6 v1 HI4 HV4 HB4 HC4
    go_wp2_with fail
    refine (image_any2 CB _ HCZ.out).mono ?_
    rintro e w6 ⟨g3, rfl, hg6, hlo, h6⟩
    obtain ⟨PB, hPB⟩ : ∃ PB, pageB 0 CB = PB := ⟨_, rfl⟩
    have HZ : Hid (PB.size ≤ maxLen) := Lib.hid (by rw [← hPB, pageB_size]; decide)
    have HPB := Lib.hid hPB
    rw [hPB] at hg6
    have HB6 := Lib.hid (below_next HB5.out h6)
    have HV6 := Lib.hid (at_next h6 HV5.out)
    have HJ6 := Lib.hid (at_next h6 HI5.out)
    have HG6 := Lib.hid hg6
    clear h6 hPB hg6 hlo HB5 HV5 HI5
    go_upto_region 17 with (fail)
    generalize e7 : w6.alloc _ = W7
    have hb7 := al_bel e7
    have HI7 := Lib.hid (al_blk e7)
    have HB7 := Lib.hid (below_next HB6.out hb7)
    have HV7 := Lib.hid (at_next hb7 HV6.out)
    have HJ7 := Lib.hid (at_next hb7 HJ6.out)
    have HG7 := Lib.hid (at_next hb7 HG6.out)
    clear hb7 e7 HV6 HJ6 HG6
    go_wp2_with (refine wpList_load_row 35 _ rfl rfl w6.heap.size rfl #[.slice (some ⟨g3, 0, none⟩) 1 1, .int .u16 0, .int .u16 0, .slice none 0 0, .slice none 0 0] HI7.out Try.underlying35 info35 ?_)
    refine (refStart_any (E := imgE g3 PB) ⟨strs_one HG7.out HZ.out, (by decide : 1 ≤ maxLen), ok16_0, ok16_0⟩).mono ?_
    rintro e w8 ⟨C8, rfl, hs8, h8⟩
    obtain ⟨p1, c1, p2, c2, rfl, hin8⟩ := hs8.cells
    obtain ⟨RS, hRS⟩ : ∃ RS, ramS (fun _ => 0) = RS := ⟨_, rfl⟩
    have HRS := Lib.hid hRS
    rw [hRS]
    have HH8 := Lib.hid h8
    have HIN8 := Lib.hid hin8
    clear hs8 h8 hin8 hRS
    go_wp2_with (refine wpList_store_row 43 _ _ rfl rfl w8.heap.size rfl (snC (startM 0) RS (.slice p1 2 c1) (.slice p2 0 c2)) rfl (alloc_at w8 _) info43 rfl (snC_one _ _ _ _ _ _ _ _) ?_; refine Hid.out ?_)
    generalize e9 : World.setRow _ _ _ = W9
    have HL9 := Lib.hid (law_start HH8.out HIN8.out rfl e9)
    refine Lib.hid ?_
    clear e9 HH8 HIN8
    have v0 : W9.cell? ⟨w.heap.size + 1, 0, none⟩ = some (.int .u16 va) := Lib.cell_of_heap (at_next HL9.out.bel HV7.out) 0
    have y0 : W9.cell? ⟨w8.heap.size, 1, none⟩ = some (.int .u16 0) := HL9.out.cell 1
    have z0 := at_fr HL9.out.x 1
    go_upto_region 19 with (fail)
    generalize e10 : World.setCell _ _ _ = W10
    have HL10 : Hid (LawAt W7 w8.heap.size (snC ({ startM 0 with R := setR (fun _ => 0) 1 va }) RS (.slice p1 2 c1) (.slice p2 0 c2)) (startM 0) (.slice p1 2 c1) (.slice p2 0 c2) W10) := Lib.hid (by
      have h := HL9.out.set e10
      simp only [snC, lA, lZ, lS] at h
      exact h)
    clear e10 HL9 y0 z0 v0
    have y0 : W10.cell? ⟨w8.heap.size, 2, none⟩ = some (.int .u16 0) := HL10.out.cell 2
    have z0 := at_fr HL10.out.x 2
    go_upto_region 20 with (fail)
    generalize e11 : World.setCell _ _ _ = W11
    have HL11 : Hid (LawAt W7 w8.heap.size (snC ({ startM 0 with R := aR va bb }) RS (.slice p1 2 c1) (.slice p2 0 c2)) (startM 0) (.slice p1 2 c1) (.slice p2 0 c2) W11) := Lib.hid (by
      have h := HL10.out.set e11
      simp only [snC, lA, lZ, lS] at h
      exact h)
    clear e11 HL10 y0 z0
    have y0 : W11.cell? ⟨w8.heap.size, 11, none⟩ = some (.int .u16 0) := HL11.out.cell 11
    have z0 := at_fr HL11.out.x 11
    go_upto_region 21 with (fail)
    generalize e12 : World.setCell _ _ _ = W12
    have HL12 : Hid (LawAt W7 w8.heap.size (snC (am va bb f4) RS (.slice p1 2 c1) (.slice p2 0 c2)) (startM 0) (.slice p1 2 c1) (.slice p2 0 c2) W12) := Lib.hid (by
      have h := HL11.out.set e12
      simp only [snC, lA, lZ, lS] at h
      exact h)
    clear e12 HL11 y0 z0
    have v0 : W12.cell? ⟨w.heap.size + 1, 0, none⟩ = some (.int .u16 va) := Lib.cell_of_heap (at_next HL12.out.bel HV7.out) 0
    obtain ⟨r, fl, dv, hrr⟩ : ∃ r fl dv, arR (32 + j) va bb f4 = (r, fl, dv) := ⟨_, _, _, rfl⟩
    have HAR : Hid (∀ W, Calls Try.prog 16 #[.int .i64 (32 + j), .int .u16 va, .int .u16 bb, .int .u16 f4] W fun e w' => e = .returned (.tuple #[.int .u16 r, .int .u16 fl, .bool dv]) ∧ W = w') := Lib.hid fun W => by
      have h := arith_law (32 + j) va bb f4 W (by have := HJ.out; omega) (by have := HJ.out; omega) HVA.out.1 HVA.out.2 HBO.out.1 HBO.out.2 HF4.out.1 (by have := HF4.out; omega)
      unfold ArPost at h
      rw [hrr] at h
      exact h
    have HRR := Lib.hid hrr
    clear hrr
    obtain ⟨m9, hm9⟩ : ∃ m9, aend va bb f4 (32 + j) 4 = m9 := ⟨_, rfl⟩
    have HM9 := Lib.hid hm9
    clear hm9
    go_wp2_with fail
    refine (HAR.out _).mono ?_
    rintro e w13 ⟨rfl, rfl⟩
    clear v0 HAR
    have HX : Hid (Calls Try.prog 17 #[.agg #[.slice (some ⟨g3, 0, none⟩) 1 1, .int .u16 0, .int .u16 0, .slice none 0 0, .slice none 0 0], .agg #[.slice none 0 0, .slice none 0 0], .agg (snC (am va bb f4) RS (.slice p1 2 c1) (.slice p2 0 c2))] W12 (RanPost W12 (if dv = true then (am va bb f4, (4, 0)) else (m9, (0, 0))))) := Lib.hid (by
      obtain ⟨hni, hc2⟩ := law_in (E := imgE g3 PB) (m := am va bb f4) (strs_one (at_next HL12.out.bel HG7.out) HZ.out) HL12.out.snap rfl ⟨rfl, rfl, rfl, rfl⟩ (am_ok HVA.out HBO.out ⟨HF4.out.1, by have := HF4.out; omega⟩) (row_none _ _ _) (row_none _ _ _) (show 1 ≤ maxLen by decide) ok16_0 ok16_0 (Nat.zero_le _) (Nat.zero_le _) (fun x hx => by cases hx) (fun x hx => by cases hx)
      have hst := ar_step (E := imgE g3 PB) (a := va) (b := bb) (f := f4) HEA.out (by rw [← HPB.out, ← HCB.out]; rfl) HQB.out
      rw [HRR.out] at hst
      dsimp only at hst
      have hx := Step_any hni c1 c2 hc2 (show (0 : Nat) < 1000000000000 by decide)
      rw [norm_like rfl rfl rfl, hst, HRS.out, HM9.out] at hx
      exact hx)
    go_wp2_with (first | refine wpList_load_row 35 _ rfl rfl w6.heap.size rfl #[.slice (some ⟨g3, 0, none⟩) 1 1, .int .u16 0, .int .u16 0, .slice none 0 0, .slice none 0 0] (at_next HL12.out.bel HI7.out) Try.underlying35 info35 ?_ | refine wpList_load_row 43 _ rfl rfl w8.heap.size rfl (snC (am va bb f4) RS (.slice p1 2 c1) (.slice p2 0 c2)) HL12.out.x Try.underlying43 info43 ?_)
    cases dv
    · replace HX := Lib.hid (by have h := HX.out; rw [if_neg (by decide)] at h; exact h)
      refine HX.out.mono ?_
      rintro e w13 ⟨C13, rfl, hs13, h13⟩
      obtain ⟨p3, c3, p4, c4, rfl, hin13⟩ := hs13.cells
      have HS13 := Lib.hid hin13
      have HB13 := Lib.hid h13
      clear hs13 h13 hin13 HX
      go_wp2_with (refine wpList_store_row 43 _ _ rfl rfl w13.heap.size rfl (snC m9 (ramS m9.ram) (.slice p3 m9.st.length c3) (.slice p4 m9.out.length c4)) rfl (blk_mid1 w13 _ _) info43 rfl (snC_one _ _ _ _ _ _ _ _) ?_; refine Hid.out ?_)
      generalize e14 : World.setRow _ _ _ = W14
      have HR14 := Lib.hid ((ran_a HB13.out HS13.out rfl).row HB13.out.size e14)
      refine Lib.hid ?_
      clear e14
      go_wp2_with (refine wpList_store_row 46 _ _ rfl rfl (w13.heap.size + 1) rfl #[.int .i64 0, .int .u16 0] rfl HR14.out.t info46 rfl (by simp [Value.oneCell']) ?_; refine Hid.out ?_)
      generalize e15 : World.setRow _ _ _ = W15
      have HR15 := Lib.hid (HR14.out.row2 HB13.out.size e15)
      refine Lib.hid ?_
      clear e15 HR14
      have HLX := Lib.hid (HL12.out.next HR15.out.bel)
      have d0 : W15.cell? ⟨w13.heap.size + 1, 0, none⟩ = some (.int .i64 0) := Lib.cell_of_heap HR15.out.t 0
      have d1 : W15.cell? ⟨w13.heap.size + 1, 1, none⟩ = some (.int .u16 0) := Lib.cell_of_heap HR15.out.t 1
      clear d0 d1
      have HNX : Hid (w8.heap.size < w13.heap.size) := Lib.hid (Nat.lt_of_lt_of_le (at_lt HL12.out.x) HB13.out.size)
      have HK15 : Hid (KeepR w13.heap.size (snC m9 (ramS m9.ram) (.slice p3 m9.st.length c3) (.slice p4 m9.out.length c4)) #[.int .i64 0, .int .u16 0] m9 W12 (.slice p3 m9.st.length c3) (.slice p4 m9.out.length c4) W15) := Lib.hid ⟨HR15.out.y, HR15.out.t, HR15.out.snap⟩
      have HL15 : Hid (LawAt W7 w8.heap.size (snC (am va bb f4) RS (.slice p1 2 c1) (.slice p2 0 c2)) (startM 0) (.slice p1 2 c1) (.slice p2 0 c2) W15) := HLX
      clear HLX
      have y0 : W15.cell? ⟨w8.heap.size, 1, none⟩ = some (.int .u16 va) := HL15.out.cell 1
      have z0 := at_fr HL15.out.x 1
      go_upto_region 26 with (fail)
      generalize e16 : World.setCell _ _ _ = W16
      have HL16 : Hid (LawAt W7 w8.heap.size (snC ({ am va bb f4 with R := setR (aR va bb) 1 r }) RS (.slice p1 2 c1) (.slice p2 0 c2)) (startM 0) (.slice p1 2 c1) (.slice p2 0 c2) W16) := Lib.hid (by
        have h := HL15.out.set e16
        simp only [snC, lA, lZ, lS] at h
        exact h)
      have HK16 := Lib.hid (HK15.out.set HL15.out HNX.out e16)
      clear HK15 e16 HL15 y0 z0
      have y0 : W16.cell? ⟨w8.heap.size, 11, none⟩ = some (.int .u16 f4) := HL16.out.cell 11
      have z0 := at_fr HL16.out.x 11
      go_upto_region 27 with (fail)
      generalize e17 : World.setCell _ _ _ = W17
      have HL17 : Hid (LawAt W7 w8.heap.size (snC ({ am va bb f4 with R := setR (aR va bb) 1 r, f := fl }) RS (.slice p1 2 c1) (.slice p2 0 c2)) (startM 0) (.slice p1 2 c1) (.slice p2 0 c2) W17) := Lib.hid (by
        have h := HL16.out.set e17
        simp only [snC, lA, lZ, lS] at h
        exact h)
      have HK17 := Lib.hid (HK16.out.set HL16.out HNX.out e17)
      clear HK16 e17 HL16 y0 z0
      have i6 : W17.cell? ⟨w1.heap.size, 6, none⟩ = some (.int .i64 4) := Lib.cell_of_heap (at_next HL17.out.bel HJ7.out) 6
      have x8 : IntKind.u16.wrap (4 : Int) = 4 := by decide
      have y0 : W17.cell? ⟨w8.heap.size, 8, none⟩ = some (.int .u16 0) := HL17.out.cell 8
      have z0 := at_fr HL17.out.x 8
      go_upto_region 28 with (fail)
      generalize e18 : World.setCell _ _ _ = W18
      have HL18 : Hid (LawAt W7 w8.heap.size (snC ({ am va bb f4 with R := setR (aR va bb) 1 r, f := fl, pc := 4 }) RS (.slice p1 2 c1) (.slice p2 0 c2)) (startM 0) (.slice p1 2 c1) (.slice p2 0 c2) W18) := Lib.hid (by
        have h := HL17.out.set e18
        simp only [snC, lA, lZ, lS] at h
        exact h)
      have HK18 := Lib.hid (HK17.out.set HL17.out HNX.out e18)
      clear HK17 e18 HL17 y0 z0 i6 x8
      have y0 : W18.cell? ⟨w8.heap.size, 13, none⟩ = some (.int .i64 0) := HL18.out.cell 13
      have z0 := at_fr HL18.out.x 13
      go_upto_region 29 with (fail)
      generalize e19 : World.setCell _ _ _ = W19
      have HL19 : Hid (LawAt W7 w8.heap.size (snC ({ am va bb f4 with R := setR (aR va bb) 1 r, f := fl, pc := 4, steps := 1 }) RS (.slice p1 2 c1) (.slice p2 0 c2)) (startM 0) (.slice p1 2 c1) (.slice p2 0 c2) W19) := Lib.hid (by
        have h := HL18.out.set e19
        simp only [snC, lA, lZ, lS] at h
        exact h)
      have HK19 := Lib.hid (HK18.out.set HL18.out HNX.out e19)
      clear HK18 e19 HL18 y0 z0
      have HEQ : Hid (m9 = { am va bb f4 with R := setR (aR va bb) 1 r, f := fl, pc := 4, steps := 1 }) := Lib.hid (by
        rw [← HM9.out]
        unfold aend
        rw [HRR.out]
        rfl)
      have HSM := Lib.hid (same_ref (w := W19) (ma := m9) (mb := { am va bb f4 with R := setR (aR va bb) 1 r, f := fl, pc := 4, steps := 1 }) (Sa := ramS m9.ram) (Sb := RS) (load_of (m := m9) HK19.out.snap (by rw [HEQ.out]; show (2 : Nat) ≤ 4096; decide) (by rw [HEQ.out]; show (0 : Nat) ≤ 1000000000000; decide) (own_cap HK19.out.snap.st)) (load_of2 (n := { am va bb f4 with R := setR (aR va bb) 1 r, f := fl, pc := 4, steps := 1 }) HL19.out.snap rfl rfl rfl) (by rw [← HRS.out, HEQ.out]; rfl))
      have HBZ := Lib.hid (below_next HB7.out HL19.out.bel)
      have d0 : W19.cell? ⟨w13.heap.size + 1, 0, none⟩ = some (.int .i64 0) := Lib.cell_of_heap HK19.out.t 0
      go_wp2_with (first | refine wpList_load_rowg 43 _ rfl rfl w13.heap.size rfl (snC m9 (ramS m9.ram) (.slice p3 m9.st.length c3) (.slice p4 m9.out.length c4)) HK19.out.y Try.underlying43 info43 ?_ | refine wpList_load_rowg 43 _ rfl rfl w8.heap.size rfl (snC { am va bb f4 with R := setR (aR va bb) 1 r, f := fl, pc := 4, steps := 1 } RS (.slice p1 2 c1) (.slice p2 0 c2)) HL19.out.x Try.underlying43 info43 ?_)
      refine HSM.out.mono ?_
      rintro e w20 ⟨rfl, h20⟩
      have HBY := Lib.hid (below_next HBZ.out h20)
      clear h20 d0
      go_wp2_with fail
      exact bodyPost_ret (v := .bool true) (by simp [results, Try.results6, go_sem]) rfl ⟨rfl, HBY.out⟩
    · replace HX := Lib.hid (by have h := HX.out; rw [if_pos rfl] at h; exact h)
      refine HX.out.mono ?_
      rintro e w13 ⟨C13, rfl, hs13, h13⟩
      obtain ⟨p3, c3, p4, c4, rfl, hin13⟩ := hs13.cells
      have HS13 := Lib.hid hin13
      have HB13 := Lib.hid h13
      clear hs13 h13 hin13 HX
      go_wp2_with (refine wpList_store_row 43 _ _ rfl rfl w13.heap.size rfl (snC (am va bb f4) (ramS (am va bb f4).ram) (.slice p3 (am va bb f4).st.length c3) (.slice p4 (am va bb f4).out.length c4)) rfl (blk_mid1 w13 _ _) info43 rfl (snC_one _ _ _ _ _ _ _ _) ?_; refine Hid.out ?_)
      generalize e14 : World.setRow _ _ _ = W14
      have HR14 := Lib.hid ((ran_a HB13.out HS13.out rfl).row HB13.out.size e14)
      refine Lib.hid ?_
      clear e14
      go_wp2_with (refine wpList_store_row 46 _ _ rfl rfl (w13.heap.size + 1) rfl #[.int .i64 4, .int .u16 0] rfl HR14.out.t info46 rfl (by simp [Value.oneCell']) ?_; refine Hid.out ?_)
      generalize e15 : World.setRow _ _ _ = W15
      have HR15 := Lib.hid (HR14.out.row2 HB13.out.size e15)
      refine Lib.hid ?_
      clear e15 HR14
      have HLX := Lib.hid (HL12.out.next HR15.out.bel)
      have d0 : W15.cell? ⟨w13.heap.size + 1, 0, none⟩ = some (.int .i64 4) := Lib.cell_of_heap HR15.out.t 0
      have d1 : W15.cell? ⟨w13.heap.size + 1, 1, none⟩ = some (.int .u16 0) := Lib.cell_of_heap HR15.out.t 1
      have q46 : ∀ W, (binOp .eql 46 (.agg #[.int .i64 4, .int .u16 0]) (.agg #[.int .i64 4, .int .u16 0])).run Try.prog W = .ok (.bool true) W := fun W => by rw [eql46]; rfl
      have hg46 := guard46
      have HSM := Lib.hid (same_ref (w := W15) (ma := am va bb f4) (mb := am va bb f4) (Sa := ramS (am va bb f4).ram) (Sb := RS) (load_of2 (n := am va bb f4) HR15.out.snap rfl rfl rfl) (load_of2 (n := am va bb f4) HLX.out.snap rfl rfl rfl) (by rw [← HRS.out]; rfl))
      have HBZ := Lib.hid (below_next HB7.out HLX.out.bel)
      go_wp2_with (first | refine wpList_load_rowg 43 _ rfl rfl w13.heap.size rfl (snC (am va bb f4) (ramS (am va bb f4).ram) (.slice p3 (am va bb f4).st.length c3) (.slice p4 (am va bb f4).out.length c4)) HR15.out.y Try.underlying43 info43 ?_ | refine wpList_load_rowg 43 _ rfl rfl w8.heap.size rfl (snC (am va bb f4) RS (.slice p1 2 c1) (.slice p2 0 c2)) HLX.out.x Try.underlying43 info43 ?_)
      refine HSM.out.mono ?_
      rintro e w20 ⟨rfl, h20⟩
      have HBY := Lib.hid (below_next HBZ.out h20)
      clear h20 q46 hg46 d0 d1
      go_wp2_with fail
      exact bodyPost_ret (v := .bool true) (by simp [results, Try.results6, go_sem]) rfl ⟨rfl, HBY.out⟩
theorem cpuArith_walk (oa ob va vb f : Int) (w : World) (a0 : 0 ≤ oa) (a1 : oa < 256) (b0 : 0 ≤ ob) (b1 : ob < 256) (c0 : 0 ≤ va) (c1 : va < 65536) (d0 : 0 ≤ vb) (d1 : vb < 65536) (f0 : 0 ≤ f) (f1 : f < 256) :
    Calls Try.prog 6 #[.agg #[.int .u8 oa, .int .u8 ob], .agg #[.int .u16 va, .int .u16 vb], .int .u8 f] w fun e w' => e = .returned (.bool true) ∧ Below w.heap.size w w' :=
  arith_pick oa ob va vb f w ⟨a0, a1⟩ ⟨b0, b1⟩ ⟨c0, c1⟩ ⟨d0, d1⟩ ⟨f0, f1⟩
end Go.Proofs.Ytieaicdihingkaa
