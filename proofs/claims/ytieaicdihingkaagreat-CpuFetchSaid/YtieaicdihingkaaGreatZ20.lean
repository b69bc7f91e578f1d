/- CpuFetch: the walk. -/
import Derived.Test.YtieaicdihingkaaGreatZ19
import Derived.Test.YtieaicdihingkaaGreatR5
namespace Go.Proofs.YtieaicdihingkaaGreat
set_option linter.unusedVariables false
set_option linter.unusedSimpArgs false
open Go.RowKit
theorem wpList_load_rowg {ops : Array Oper} {rest : List Oper} {o : Oper} {a : Act} {Q : Exit → Act → World → Prop} {W : World} (t : TypeId) (x : Operand) (hgd : Region.wanted o (yielded ops a.tmps) = true) (ho : o.op = .load t x) (N : Nat) (hx : a.eval x = .pointer (some ⟨N, 0, none⟩)) (C : Array Value) {e : TypeId}
  (hN : W.heap[N]? = some (.cells C e (0, 0))) {fs : Array Field} (hu : Tryz.prog.underlying t = some (.struct fs)) (hi : (Tryz.prog.info? t).map (·.size) = some C.size) (h : wpList Tryz.prog ops Q rest (a.put o.dst (.agg C)) W) : wpList Tryz.prog ops Q (o :: rest) a W := by
 refine wpList_step fun K hK => ?_
 rw [if_pos hgd]
 have hl := run_loadVar_row (P := Tryz.prog) W N e t C (0, 0) _ hN hu rfl hi
 unfold Oper.wp execOp
 simp only [ho, hx, Instr.loadAt, Instr.sureAddr, Sem.run_bind, Sem.run_pure, Result.andThen_ok, hl]
 exact hK _ _ h
theorem snap_cap {W0 V : World} {m : Mach} {p p2 : Option Addr} {c c2 : Nat} (h : SnapIn W0 V m (.slice p m.st.length c) (.slice p2 m.out.length c2)) : m.st.length ≤ c := by
 rcases h.st.2 with ⟨_, h0⟩ | ⟨g, cap, cur, e1, _, _, hnc, _⟩
 ·omega
 ·injection e1 with _ e2 e3
  omega
theorem snap_load {W0 V : World} {m : Mach} {S : ByteArray} {p p2 : Option Addr} {c c2 : Nat} (h : SnapIn W0 V m (.slice p m.st.length c) (.slice p2 m.out.length c2)) (hl : m.st.length ≤ 4096) (ho : m.out.length ≤ 1000000000000) : LoadIn V m S m.st p p2 c c2 :=
 ⟨own_rowSrc h.st (by decide), own_rowSrc h.out (by decide), hl, snap_cap h, ho⟩
/-- The outcome of a step is a state in bounds. -/
theorem step_okN {w : World} {E : Env} {m : Mach} {S : ByteArray} {l : List Int} {ps po : Option Addr} (h : NormIn w E m S l ps po) (ho : m.out.length < 1000000000000) (n : Mach) (hn : stepM E (normM m S l) = .ok n) : n.Ok := by
 obtain ⟨e, w', _, ⟨B, g, sv, ov, _, _, hm⟩, _⟩ := normal_any h l.length m.out.length (Nat.le_refl _) []
 obtain ⟨e2, w2, _, hp, _⟩ := step_any hm ho []
 obtain ⟨_, hp⟩ := hp
 rw [stepM_env, hn] at hp
 obtain ⟨_, sv', ov', hm2⟩ := hp
 exact hm2.ok
theorem stepR_okN {w : World} {E : Env} {m : Mach} {S : ByteArray} {l : List Int} {ps po : Option Addr} (h : NormIn w E m S l ps po) (ho : m.out.length < 1000000000000) (hok : (normM m S l).Ok) : (stepR E (normM m S l)).1.Ok := by
 unfold stepR
 cases e : stepM E (normM m S l) with
 | ok n => exact step_okN h ho n e
 | error t => exact hok
def envF (g : Nat) (B : ByteArray) (a : Int) : Env := { imgE g B with cb := 2, banks := [B, B], entry := a }
theorem strs_two {w : World} {g : Nat} {S : ByteArray} (h : w.heap[g]? = some (.cells #[.string S, .string S] 9 (0, 0))) (hs : S.size ≤ maxLen) : StrsLow w.heap.size w (some ⟨g, 0, none⟩) [S, S] := by
 intro k s hk
 match k with
 | 0 =>
  have : s = S := by simpa using hk.symm
  subst this
  exact ⟨g, rfl, at_lt h, Lib.cell_of_heap h 0, hs⟩
 | 1 =>
  have : s = S := by simpa using hk.symm
  subst this
  exact ⟨g, rfl, at_lt h, Lib.cell_of_heap h 1, hs⟩
 | k + 2 => simp at hk
set_option maxRecDepth 20000 in
set_option maxHeartbeats 20000000 in
theorem fetch_pick (s : ByteArray) (a b : Int) (w : World) (ha : OkU16 a) (hb : OkI64 b) : Calls Tryz.prog 3 #[.string s, .int .u16 a, .int .i64 b] w (EvPost w true) := by
 have HAO := Lib.hid ha
 have HBO := Lib.hid hb
 obtain ⟨n, hn⟩ : ∃ n, min s.size 8 = n := ⟨_, rfl⟩
 have mA : (if (8 : Int) < (s.size : Int) then (8 : Int) else (s.size : Int)) = (n : Int) := by split <;> omega
 have mB : (if 8 < s.size then (8 : Int) else (s.size : Int)) = (n : Int) := by split <;> omega
 have m0 : (0 : Int) ≤ (n : Int) := by omega
 have m1 : (n : Int) ≤ (s.size : Int) := by omega
 have m2 : n ≤ s.size := by omega
 obtain ⟨off, hoff⟩ : ∃ off : Nat, a % 4096 = (off : Int) := ⟨(a % 4096).toNat, by omega⟩
 have hoff2 : off < 4096 := by omega
 have HOFF := Lib.hid hoff2
 have ha' := ha
 unfold OkU16 at ha'
 have x1 : IntKind.i64.wrap a = a := IntWalk.i64_in _ (by omega)
 have x2 : a.tmod 4096 = (off : Int) := by rw [Int.tmod_eq_emod_of_nonneg ha'.1]; exact hoff
 have HN8 : Hid (n ≤ 8) := Lib.hid (by omega)
 clear ha hb hn hoff hoff2 ha'
 go_enter Tryz.func3, Tryz.ntmps3
 go_wp2_with fail
 refine (sanity_any _).mono ?_
 rintro e w1 ⟨rfl, h1⟩
 have HB1 := Lib.hid h1
 clear h1
 go_upto_region 3 with (fail)
 obtain ⟨c8, hc8⟩ : ∃ c8, s.extract 0 n = c8 := ⟨_, rfl⟩
 rw [hc8]
 have HC8 : Hid (c8.size ≤ 1000000000000) := Lib.hid (by rw [← hc8, ByteArray.size_extract]; have := HN8.out; omega)
 clear hc8 mA mB m0 m1 m2
 go_wp2_with fail
 refine (page_any off c8 _ HOFF.out HC8.out).mono ?_
 rintro e w2 ⟨rfl, h2⟩
 have HB2 := Lib.hid (below_next HB1.out h2)
 obtain ⟨PB, hPB⟩ : ∃ PB, pageB off c8 = PB := ⟨_, rfl⟩
 have HZ : Hid (PB.size ≤ maxLen) := Lib.hid (by rw [← hPB, pageB_size]; decide)
 rw [hPB]
 clear h2 hPB x1 x2
 go_upto_region 5 with (fail)
 generalize e3 : w2.alloc (.cells #[.string PB, .string PB] 9) = W3
 have hg3 := al_blk e3
 have hb3 := al_bel e3
 have hs3 : W3.heap.size = w2.heap.size + 1 := by rw [← e3]; simp
 clear e3
 generalize e4 : W3.alloc _ = W4
 have HI4 := Lib.hid (al_blk e4)
 have HG4 := Lib.hid (at_next (al_bel e4) hg3)
 have HB4 := Lib.hid (below_next (below_next HB2.out hb3) (al_bel e4))
 clear e4 hg3 hb3
 obtain ⟨g3, hg3⟩ : ∃ g, w2.heap.size = g := ⟨_, rfl⟩
 rw [hg3] at HG4 ⊢
 rw [hs3, hg3] at HI4
 clear hg3 hs3
 have HST : Hid (StrsLow W4.heap.size W4 (some ⟨g3, 0, none⟩) [PB, PB]) := Lib.hid (strs_two HG4.out HZ.out)
 go_wp2_with (refine wpList_load_row 29 _ rfl rfl (g3 + 1) rfl #[.slice (some ⟨g3, 0, none⟩) 2 2, .int .u16 a, .int .u16 0, .slice none 0 0, .slice none 0 0] HI4.out Tryz.underlying29 info35 ?_)
 refine (refStart_any (E := envF g3 PB a) ⟨HST.out, (by decide : 2 ≤ maxLen), HAO.out, ok16_0⟩).mono ?_
 rintro e w8 ⟨C8, rfl, hs8, h8⟩
 obtain ⟨p1, c1, p2, c2, rfl, hin8⟩ := hs8.cells
 obtain ⟨RS, hRS⟩ : ∃ RS, ramS (fun _ => 0) = RS := ⟨_, rfl⟩
 have HRS := Lib.hid hRS
 rw [hRS]
 have HH8 := Lib.hid h8
 have HIN8 := Lib.hid hin8
 clear hs8 h8 hin8 hRS
 go_wp2_with (refine wpList_store_row 36 _ _ rfl rfl w8.heap.size rfl (snC (startM a) RS (.slice p1 2 c1) (.slice p2 0 c2)) rfl (alloc_at w8 _) info43 rfl (snC_one _ _ _ _ _ _ _ _) ?_; refine Hid.out ?_)
 generalize e9 : World.setRow _ _ _ = W9
 have HL9 := Lib.hid (law_start HH8.out HIN8.out rfl e9)
 refine Lib.hid ?_
 clear e9 HH8 HIN8
 have y0 : W9.cell? ⟨w8.heap.size, 12, none⟩ = some (.int .i64 0) := HL9.out.cell 12
 have z0 := at_fr HL9.out.x 12
 go_upto_region 7 with (fail)
 generalize e10 : World.setCell _ _ _ = W10
 have HL10 : Hid (LawAt W4 w8.heap.size (snC ({ startM a with bank := b }) RS (.slice p1 2 c1) (.slice p2 0 c2)) (startM a) (.slice p1 2 c1) (.slice p2 0 c2) W10) := Lib.hid (by
  have h := HL9.out.set e10
  simp only [snC, lQ] at h
  exact h)
 clear e10 HL9 y0 z0
 obtain ⟨m0, hm0⟩ : ∃ m0 : Mach, { startM a with bank := b } = m0 := ⟨_, rfl⟩
 have HM0 : Hid (m0.sp = 2 ∧ m0.st = [0, 65535] ∧ m0.ram = (fun _ => 0) ∧ m0.out = []) := Lib.hid (by rw [← hm0]; exact ⟨rfl, rfl, rfl, rfl⟩)
 have HMO : Hid m0.Ok := Lib.hid (by
  have h := startM_ok HAO.out
  rw [← hm0]
  exact ⟨h.R, h.pc, h.sp, h.fp, h.f, HBO.out, h.steps, h.inputs, h.polls, h.ram, h.st, h.len, h.out, h.outs⟩)
 rw [hm0] at HL10
 have HNM : Hid (normM m0 (ramS fun _ => 0) [0, 65535] = m0) := Lib.hid (norm_like HM0.out.1 HM0.out.2.1 HM0.out.2.2.1)
 clear hm0
 have hni := law_in (E := envF g3 PB a) (m := m0) (strs_two (at_next HL10.out.bel HG4.out) HZ.out) HL10.out.snap rfl HM0.out HMO.out (row_none _ _ _) (row_none _ _ _) (show 2 ≤ maxLen by decide) HAO.out ok16_0 (Nat.zero_le _) (Nat.zero_le _) (fun _ h => by cases h) (fun _ h => by cases h)
 have HOL : Hid (m0.out.length < 1000000000000) := Lib.hid (by rw [HM0.out.2.2.2]; decide)
 obtain ⟨hn1, hc2⟩ := hni
 have hso := stepR_okN hn1 HOL.out (by rw [HNM.out]; exact HMO.out)
 have HSO2 : Hid (∀ k, stepM (envF g3 PB a) (normM m0 (ramS fun _ => 0) [0, 65535]) = .ok k → k.Ok) := Lib.hid (step_okN hn1 HOL.out)
 have hx := Step_any hn1 c1 c2 hc2 HOL.out
 rw [HNM.out] at hx hso
 rw [HRS.out] at hx
 obtain ⟨r, hr⟩ : ∃ r, stepR (envF g3 PB a) m0 = r := ⟨_, rfl⟩
 rw [hr] at hx hso
 have HRR := Lib.hid hr
 have HSO := Lib.hid hso
 have HX := Lib.hid hx
 have HC2 := Lib.hid hc2
 clear hr hx hso hc2 hn1
 obtain ⟨m9, k9, i9⟩ := r
 have HM0L : Hid (m0.out.length = 0) := Lib.hid (by rw [HM0.out.2.2.2]; rfl)
 have HX2 : Hid (Calls Tryz.prog 7 #[.agg #[.slice (some ⟨g3, 0, none⟩) 2 2, .int .u16 a, .int .u16 0, .slice none 0 0, .slice none 0 0], .agg #[.slice none 0 0, .slice none 0 0], .agg (snC m0 RS (.slice p1 2 c1) (.slice p2 0 c2))] W10 (RanPost W10 (m9, (k9, i9)))) := Lib.hid (by
  have h := HX.out
  rw [HM0L.out] at h
  exact h)
 clear HX
 go_wp2_with (first | refine wpList_load_row 29 _ rfl rfl (g3 + 1) rfl #[.slice (some ⟨g3, 0, none⟩) 2 2, .int .u16 a, .int .u16 0, .slice none 0 0, .slice none 0 0] (at_next HL10.out.bel HI4.out) Tryz.underlying29 info35 ?_ | refine wpList_load_row 36 _ rfl rfl w8.heap.size rfl (snC m0 RS (.slice p1 2 c1) (.slice p2 0 c2)) HL10.out.x Tryz.underlying36 info43 ?_)
 refine HX2.out.mono ?_
 rintro e w13 ⟨C13, rfl, hs13, h13⟩
 obtain ⟨p3, c3, p4, c4, rfl, hin13⟩ := hs13.cells
 have HS13 := Lib.hid hin13
 have HB13 := Lib.hid h13
 clear hs13 h13 hin13 HX2
 go_wp2_with (refine wpList_store_row 36 _ _ rfl rfl w13.heap.size rfl (snC m9 (ramS m9.ram) (.slice p3 m9.st.length c3) (.slice p4 m9.out.length c4)) rfl (blk_mid1 w13 _ _) info43 rfl (snC_one _ _ _ _ _ _ _ _) ?_; refine Hid.out ?_)
 generalize e14 : World.setRow _ _ _ = W14
 have HR14 := Lib.hid ((ran_a HB13.out HS13.out rfl).row HB13.out.size e14)
 refine Lib.hid ?_
 clear e14
 go_wp2_with (refine wpList_store_row 39 _ _ rfl rfl (w13.heap.size + 1) rfl #[.int .i64 k9, .int .u16 i9] rfl HR14.out.t info46 rfl (by simp [Value.oneCell']) ?_; refine Hid.out ?_)
 generalize e15 : World.setRow _ _ _ = W15
 have HR15 := Lib.hid (HR14.out.row2 HB13.out.size e15)
 refine Lib.hid ?_
 clear e15 HR14
 have HL15 := Lib.hid (HL10.out.next HR15.out.bel)
 have HLD : Hid (LoadIn W15 m0 (ramS fun _ => 0) [0, 65535] p1 p2 c1 c2) := Lib.hid ⟨own_rowSrc HL15.out.snap.st (by decide), by rw [HM0L.out, HM0.out.2.2.2]; exact own_rowSrc HL15.out.snap.out (by decide), by decide, HC2.out, by rw [HM0L.out]; decide⟩
 have HY2 : Hid (Calls Tryz.prog 8 #[.agg #[.slice (some ⟨g3, 0, none⟩) 2 2, .int .u16 a, .int .u16 0, .slice none 0 0, .slice none 0 0], .agg #[.slice none 0 0, .slice none 0 0], .agg (snC m0 RS (.slice p1 2 c1) (.slice p2 0 c2))] W15 (RanPost W15 (m9, (k9, i9)))) := Lib.hid (by
  have h := rStep_any (E := envF g3 PB a) HLD.out (by rw [HNM.out]; exact HMO.out) HSO2.out (strs_two (at_next HL15.out.bel HG4.out) HZ.out) (show 2 ≤ maxLen by decide) (by decide) HOL.out rfl rfl
  rw [HNM.out, HRS.out, HRR.out, HM0L.out] at h
  exact h)
 clear HLD
 go_wp2_with (first | refine wpList_load_row 29 _ rfl rfl (g3 + 1) rfl #[.slice (some ⟨g3, 0, none⟩) 2 2, .int .u16 a, .int .u16 0, .slice none 0 0, .slice none 0 0] (at_next HL15.out.bel HI4.out) Tryz.underlying29 info35 ?_ | refine wpList_load_row 36 _ rfl rfl w8.heap.size rfl (snC m0 RS (.slice p1 2 c1) (.slice p2 0 c2)) HL15.out.x Tryz.underlying36 info43 ?_)
 refine HY2.out.mono ?_
 rintro e w17 ⟨C17, rfl, hs17, h17⟩
 obtain ⟨p5, c5, p6, c6, rfl, hin17⟩ := hs17.cells
 have HS17 := Lib.hid hin17
 have HB17 := Lib.hid h17
 clear hs17 h17 hin17 HY2
 go_wp2_with (refine wpList_store_row 36 _ _ rfl rfl w17.heap.size rfl (snC m9 (ramS m9.ram) (.slice p5 m9.st.length c5) (.slice p6 m9.out.length c6)) rfl (blk_mid1 w17 _ _) info43 rfl (snC_one _ _ _ _ _ _ _ _) ?_; refine Hid.out ?_)
 generalize e18 : World.setRow _ _ _ = W18
 have HR18 := Lib.hid ((ran_a HB17.out HS17.out rfl).row HB17.out.size e18)
 refine Lib.hid ?_
 clear e18
 go_wp2_with (refine wpList_store_row 39 _ _ rfl rfl (w17.heap.size + 1) rfl #[.int .i64 k9, .int .u16 i9] rfl HR18.out.t info46 rfl (by simp [Value.oneCell']) ?_; refine Hid.out ?_)
 generalize e19 : World.setRow _ _ _ = W19
 have HR19 := Lib.hid (HR18.out.row2 HB17.out.size e19)
 refine Lib.hid ?_
 clear e19 HR18
 have HRA := Lib.hid (HR15.out.next HR19.out.bel)
 have HSM := Lib.hid (same_ref (snap_load (S := ramS m9.ram) HRA.out.snap HSO.out.len HSO.out.out) (snap_load (S := ramS m9.ram) HR19.out.snap HSO.out.len HSO.out.out) rfl)
 have q39 : ∀ W, (binOp .eql 39 (.agg #[.int .i64 k9, .int .u16 i9]) (.agg #[.int .i64 k9, .int .u16 i9])).run Tryz.prog W = .ok (.bool true) W := fun W => by rw [eql46]; simp
 have HBW := Lib.hid (below_next (below_next (below_next HB4.out HL10.out.bel) HR15.out.bel) HR19.out.bel)
 go_wp2_with (first | refine wpList_load_rowg 39 _ rfl rfl (w13.heap.size + 1) rfl #[.int .i64 k9, .int .u16 i9] HRA.out.t Tryz.underlying39 info46 ?_ | refine wpList_load_rowg 39 _ rfl rfl (w17.heap.size + 1) rfl #[.int .i64 k9, .int .u16 i9] HR19.out.t Tryz.underlying39 info46 ?_ | refine wpList_load_rowg 36 _ rfl rfl w13.heap.size rfl (snC m9 (ramS m9.ram) (.slice p3 m9.st.length c3) (.slice p4 m9.out.length c4)) HRA.out.y Tryz.underlying36 info43 ?_ | refine wpList_load_rowg 36 _ rfl rfl w17.heap.size rfl (snC m9 (ramS m9.ram) (.slice p5 m9.st.length c5) (.slice p6 m9.out.length c6)) HR19.out.y Tryz.underlying36 info43 ?_)
 refine HSM.out.mono ?_
 rintro e w20 ⟨rfl, h20⟩
 have HBY := Lib.hid (below_next HBW.out h20)
 clear h20 q39
 go_wp2_with fail
 go_ret
 exact ⟨rfl, HBY.out⟩
theorem cpuFetch_walk (s : ByteArray) (a b : Int) (w : World) (hs : s.size ≤ 9223372036854775807) (a0 : 0 ≤ a) (a1 : a < 65536) (b0 : -9223372036854775808 ≤ b) (b1 : b ≤ 9223372036854775807) :
  Calls Tryz.prog 3 #[.string s, .int .u16 a, .int .i64 b] w fun e w' => e = .returned (.bool true) ∧ Below w.heap.size w w' := fetch_pick s a b w ⟨a0, a1⟩ ⟨b0, b1⟩
end Go.Proofs.YtieaicdihingkaaGreat
