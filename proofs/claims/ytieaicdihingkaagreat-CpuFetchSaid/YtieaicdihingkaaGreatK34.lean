/- Step: one instruction, from a state given as a value. -/
import Derived.Test.YtieaicdihingkaaGreatHK
namespace Go.Proofs.YtieaicdihingkaaGreat
set_option linter.unusedVariables false
set_option linter.unusedSimpArgs false
open Go.RowKit
theorem five_blks (w W : World) (a b c d e : Obj) (h : ((((w.alloc a).alloc b).alloc c).alloc d).alloc e = W) : W.heap[w.heap.size]? = some a ∧ W.heap[w.heap.size + 1]? = some b ∧ W.heap[w.heap.size + 1 + 1]? = some c ∧ W.heap[w.heap.size + 1 + 1 + 1]? = some d ∧ W.heap[w.heap.size + 1 + 1 + 1 + 1]? = some e ∧ Below w.heap.size w W ∧ W.heap.size = w.heap.size + 5 := by
 subst h
 have h1 := alloc_at w a
 have h2 := alloc_at (w.alloc a) b
 have h3 := alloc_at ((w.alloc a).alloc b) c
 have h4 := alloc_at (((w.alloc a).alloc b).alloc c) d
 have h5 := alloc_at ((((w.alloc a).alloc b).alloc c).alloc d) e
 simp only [World.size_alloc] at h2 h3 h4 h5
 have n1 := below1 (w.alloc a) b
 have n2 := below1 ((w.alloc a).alloc b) c
 have n3 := below1 (((w.alloc a).alloc b).alloc c) d
 have n4 := below1 ((((w.alloc a).alloc b).alloc c).alloc d) e
 exact ⟨at_next n4 (at_next n3 (at_next n2 (at_next n1 h1))), at_next n4 (at_next n3 (at_next n2 h2)), at_next n4 (at_next n3 h3), at_next n4 h4, h5, below_alloc (below_alloc (below_alloc (below_alloc (below1 w a) b) c) d) e, by simp only [World.size_alloc]⟩
/-- The outcome of one instruction. -/
def stepR (E : Env) (m : Mach) : Mach × (Int × Int) := match stepM E m with
 | .ok m' => (m', (0, 0))
 | .error t => (m, t)
theorem stepR_post {E : Env} {V w' : World} {m m9 : Mach} {sv ov : Value} {e : Ending} {k i : Int} (h : StepPost E V m sv ov e w') (hr : stepR E m = (m9, (k, i))) : Keeps E.base V w' ∧ e = .returned (.agg #[.int .i64 k, .int .u16 i]) ∧ ∃ sv' ov', MachAt E w' m9 sv' ov' := by
 obtain ⟨h1, h2⟩ := h
 unfold stepR at hr
 cases hs : stepM E m with
 | ok m' =>
  rw [hs] at h2 hr
  cases hr
  exact ⟨h1, h2⟩
 | error t =>
  rw [hs] at h2 hr
  cases hr
  exact ⟨h1, h2.1, sv, ov, h2.2⟩
set_option maxRecDepth 20000 in
set_option maxHeartbeats 8000000 in
theorem Step_any {w : World} {E : Env} {m : Mach} {S : ByteArray} {l : List Int} {ps po : Option Addr} (h : NormIn w E m S l ps po) (cs co : Nat) (hcs : l.length ≤ cs) (ho : m.out.length < 1000000000000) : Calls Tryz.prog 7 #[.agg #[.slice E.pb E.banks.length E.cb, .int .u16 E.entry, .int .u16 E.vector, .slice E.pd E.nd E.cd, .slice E.pr E.nr E.cr], .agg #[.slice E.pin E.tin.length E.cin, .slice E.pirq E.tirq.length E.cirq], .agg #[.int .u16 (m.R 0), .int .u16 (m.R 1), .int .u16 (m.R 2), .int .u16 (m.R 3), .int .u16 (m.R 4), .int .u16 (m.R 5), .int .u16 (m.R 6), .int .u16 (m.R 7), .int .u16 m.pc, .int .u16 m.sp, .int .u16 m.fp, .int .u16 m.f, .int .i64 m.bank, .int .i64 m.steps, .int .i64 m.inputs, .int .i64 m.polls, .string S, .slice ps l.length cs, .slice po m.out.length co]] w (RanPost w (stepR E (normM m S l))) := by
 have HH := Lib.hid h
 have HCS := Lib.hid hcs
 obtain ⟨m2, hm2⟩ : ∃ m2, normM m S l = m2 := ⟨_, rfl⟩
 rw [hm2]
 have HM2 := Lib.hid hm2
 have HOU : Hid (m2.out.length < 1000000000000) := Lib.hid (by rw [← hm2]; exact ho)
 obtain ⟨r, hrr⟩ : ∃ r, stepR E m2 = r := ⟨_, rfl⟩
 rw [hrr]
 obtain ⟨m9, k9, i9⟩ := r
 have HRR := Lib.hid hrr
 clear h hcs ho hm2 hrr
 go_enter Tryz.func7, Tryz.ntmps7
 go_upto_region 1 with (fail)
 generalize e0 : ((((w.alloc _).alloc _).alloc _).alloc _).alloc _ = W0
 obtain ⟨hI, hT, hS, hA, hB, hb0, hz0⟩ := five_blks _ _ _ _ _ _ _ e0
 have HI := Lib.hid hI
 have HT := Lib.hid hT
 have HS := Lib.hid hS
 have HA := Lib.hid hA
 have HB := Lib.hid hB
 have HB0 := Lib.hid hb0
 have HZ0 := Lib.hid hz0
 have HN0 := Lib.hid (HH.out.next hb0)
 clear e0 hI hT hS hA hB hb0 hz0
 go_wp2_with (first | refine wpList_load_row 29 _ rfl rfl w.heap.size rfl #[.slice E.pb E.banks.length E.cb, .int .u16 E.entry, .int .u16 E.vector, .slice E.pd E.nd E.cd, .slice E.pr E.nr E.cr] HI.out Tryz.underlying29 info35 ?_ | refine wpList_load_row 44 _ rfl rfl (w.heap.size + 1) rfl #[.slice E.pin E.tin.length E.cin, .slice E.pirq E.tirq.length E.cirq] HT.out Tryz.underlying44 info51 ?_ | refine wpList_load_row 36 _ rfl rfl (w.heap.size + 1 + 1) rfl #[.int .u16 (m.R 0), .int .u16 (m.R 1), .int .u16 (m.R 2), .int .u16 (m.R 3), .int .u16 (m.R 4), .int .u16 (m.R 5), .int .u16 (m.R 6), .int .u16 (m.R 7), .int .u16 m.pc, .int .u16 m.sp, .int .u16 m.fp, .int .u16 m.f, .int .i64 m.bank, .int .i64 m.steps, .int .i64 m.inputs, .int .i64 m.polls, .string S, .slice ps l.length cs, .slice po m.out.length co] HS.out Tryz.underlying36 info43 ?_)
 refine (normal_any HN0.out cs co HCS.out).mono ?_
 rintro e w3 ⟨B, g, sv, ov, rfl, hb3, hm3⟩
 rw [HM2.out] at hm3
 obtain ⟨E2, hE2⟩ : ∃ E2, { E with B := B, ramB := g, base := W0.heap.size } = E2 := ⟨_, rfl⟩
 rw [hE2] at hm3
 obtain rfl : E2.B = B := by rw [← hE2]
 have HE2 : Hid (E2.base = W0.heap.size) := Lib.hid (by rw [← hE2])
 have HRUN : Hid (stepR E2 m2 = (m9, (k9, i9))) := Lib.hid (by
  rw [← HRR.out, ← hE2]
  unfold stepR
  rw [stepM_env])
 have HB3 := Lib.hid hb3
 have HM3 := Lib.hid hm3
 clear hE2 hb3 hm3
 go_wp2_with fail
 refine (step_any HM3.out HOU.out).mono ?_
 intro e w4 hpost
 obtain ⟨hk4, rfl, sv1, ov1, hm4⟩ := stepR_post hpost HRUN.out
 have HK4 := Lib.hid hk4
 have HM4 := Lib.hid hm4
 clear hpost hk4 hm4
 go_upto_region 3 with (fail)
 generalize e5 : w4.alloc _ = W5
 have HT5 : Hid (W5.heap[w4.heap.size]? = some (.cells #[.int .i64 k9, .int .u16 i9] 39 (0, 0))) := Lib.hid (al_blk e5)
 have HM5 := Lib.hid (HM4.out.next (al_bel e5))
 have HK5 := Lib.hid (HK4.out.trans (Keeps.of_below (base := E2.base) (al_bel e5)))
 clear e5
 have KC : Hid (∀ W, Below W5.heap.size W5 W → W.heap[w4.heap.size]? = some (.cells #[.int .i64 k9, .int .u16 i9] 39 (0, 0)) ∧ MachAt E2 W m9 sv1 ov1) := Lib.hid fun W hW => ⟨at_next hW HT5.out, HM5.out.next hW⟩
 have HAK : Hid (∀ W, Keeps E2.base w3 W → W.heap[w.heap.size + 1 + 1 + 1]? = some (.cells #[.int .u16 0, .int .u16 0, .int .u16 0, .int .u16 0, .int .u16 0, .int .u16 0, .int .u16 0, .int .u16 0, .int .u16 0, .int .u16 0, .int .u16 0, .int .u16 0, .int .i64 0, .int .i64 0, .int .i64 0, .int .i64 0, .string ⟨#[]⟩, .slice none 0 0, .slice none 0 0] 36 (0, 0)) ∧ W.heap[w.heap.size + 1 + 1 + 1 + 1]? = some (.cells #[.int .i64 0, .int .u16 0] 39 (0, 0))) := Lib.hid fun W hW => ⟨hW.blk _ _ (at_next HB3.out HA.out) (.inl (by rw [HE2.out, HZ0.out]; omega)), hW.blk _ _ (at_next HB3.out HB.out) (.inl (by rw [HE2.out, HZ0.out]; omega))⟩
 have HNE : Hid (w.heap.size + 1 + 1 + 1 + 1 < w4.heap.size) := Lib.hid (by have := at_lt (HAK.out _ HK4.out).2; exact this)
 refine' wp_region_flowU (S := fun w => w.heap[w4.heap.size]? = some (.cells #[.int .i64 k9, .int .u16 i9] 39 (0, 0))) [1] [3, 4] [[], [(16, 0)], [], [(17, 1)], [(18, 2)]] [(16, 0), (17, 1), (18, 2)] (relL [eqV _, Snapped W5 m9 (ramS m9.ram), eqV _, fun v V => True, fun v V => True]) [(3, _), (4, _)] (by kernel_rfl) (by kernel_rfl) rfl ?_ ?_ ?_
 rotate_left 2
 ·refine FlowU.val (by decide) _ (fun _ _ => Iff.rfl) ?_ ?_
  ·simp only [DepP, lQ]
   intro VV K hV hK
   go_simp
   exact hK
  refine FlowU.mem (by decide) ?_ ?_
  ·intro VV hV
   simp only [Dep, lQ]
   rintro x16 ⟨V16, rfl, hb16⟩
   intro K hK
   go_simp
   go_at_call 16
   refine (snap_any (KC.out _ hV).2).mono ?_
   rintro e w9 ⟨v9, rfl, hs9, h9⟩
   exact hK _ _ (hs9.low hV.size) h9
  refine FlowU.val (by decide) _ (fun _ _ => Iff.rfl) ?_ ?_
  ·simp only [DepP, lQ]
   intro VV K hV hK
   obtain q0 := Lib.cell_of_heap hV 0
   obtain q1' := Lib.cell_of_heap hV 1
   simp at q0 q1'
   go_simp
   exact hK
  refine FlowU.store (by decide) rfl ?_
  refine FlowU.store (by decide) rfl ?_
  exact FlowU.nil
 ·exact fun w hW => (KC.out w hW).1
 ·intro VV hV
  simp only [Dep, lQ]
  rintro x16 ⟨V16, rfl, hb16⟩
  rintro x17 ⟨V17, ⟨q1, d1, q2, d2, rfl, hsn⟩, hb17⟩
  rintro x18 ⟨V18, rfl, hb18⟩
  have HSN := Lib.hid (hsn.next hb17)
  have hkk := HK5.out.trans (Keeps.of_below (base := E2.base) hV)
  have HTV := Lib.hid (KC.out _ hV).1
  have HAV := Lib.hid (HAK.out _ hkk)
  have HBA := Lib.hid (hkk.below (by rw [HE2.out]; exact HB3.out.size))
  have HBW : Hid (Below w.heap.size w VV) := Lib.hid ((below_next HB0.out HB3.out).trans (HBA.out.mono (by rw [HE2.out]; exact HB0.out.size)))
  have HSW : Hid (w.heap.size ≤ W5.heap.size) := Lib.hid (Nat.le_trans (below_next HB0.out HB3.out).size HK5.out.size)
  refine ⟨HTV.out, ?_⟩
  intro K1 hK1
  refine (if_pos (by rfl)).mpr ?_
  refine wp_store_row 36 _ _ rfl (w.heap.size + 1 + 1 + 1) rfl (snC m9 (ramS m9.ram) (.slice q1 m9.st.length d1) (.slice q2 m9.out.length d2)) rfl HAV.out.1 info43 rfl (snC_one _ _ _ _ _ _ _ _) ?_
  refine hK1 undef _ ?_
  clear hK1 K1 hV hsn hb17 hkk
  simp only [Act.put]
  generalize eA : World.setRow _ _ _ = WA
  have HY := Lib.hid (sr_blk HAV.out.1 eA)
  have HT2 := Lib.hid (sr_oth (A := w.heap.size + 1 + 1 + 1) (by omega) HAV.out.2 eA)
  have HTA := Lib.hid (sr_oth (A := w.heap.size + 1 + 1 + 1) (by have := HNE.out; omega) HTV.out eA)
  have HS2 := Lib.hid (sr_snap HSN.out (by decide) HAV.out.1 eA)
  have HW2 := Lib.hid (sr_bel HBW.out (by omega) eA)
  clear eA
  refine ⟨HTA.out, ?_⟩
  intro K1 hK1
  refine (if_pos (by rfl)).mpr ?_
  refine wp_store_row 39 _ _ rfl (w.heap.size + 1 + 1 + 1 + 1) rfl #[.int .i64 k9, .int .u16 i9] rfl HT2.out info46 rfl (by simp [Value.oneCell']) ?_
  refine hK1 undef _ ?_
  clear hK1 K1
  simp only [Act.put]
  generalize eB : World.setRow _ _ _ = WB
  have HY3 := Lib.hid (sr_oth (A := w.heap.size + 1 + 1 + 1 + 1) (by omega) HY.out eB)
  have HT3 := Lib.hid (sr_blk HT2.out eB)
  have HTB := Lib.hid (sr_oth (A := w.heap.size + 1 + 1 + 1 + 1) (by have := HNE.out; omega) HTA.out eB)
  have HS3 := Lib.hid (sr_snap HS2.out (by decide) HT2.out eB)
  have HW3 := Lib.hid (sr_bel HW2.out (by omega) eB)
  clear eB
  refine ⟨HTB.out, ?_⟩
  go_wp2_with fail
  refine bodyPost_ret (v := .tuple #[.agg (snC m9 (ramS m9.ram) (.slice q1 m9.st.length d1) (.slice q2 m9.out.length d2)), .agg #[.int .i64 k9, .int .u16 i9]]) (rows_result rfl _ _ (w.heap.size + 1 + 1 + 1) (w.heap.size + 1 + 1 + 1 + 1) _ _ 36 39 rfl rfl HY3.out HT3.out Tryz.underlying36 Tryz.underlying39 info43 info46) rfl ?_
  exact ⟨_, rfl, Snapped.low ⟨q1, d1, q2, d2, rfl, HS3.out⟩ HSW.out, HW3.out⟩
end Go.Proofs.YtieaicdihingkaaGreat
