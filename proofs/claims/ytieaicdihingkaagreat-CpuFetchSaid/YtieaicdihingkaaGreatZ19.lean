/- The reference's Step. -/
import Derived.Test.YtieaicdihingkaaGreatZ18
import Derived.Deep.RegionHeld3
namespace Go.Proofs.YtieaicdihingkaaGreat
set_option linter.unusedVariables false
set_option linter.unusedSimpArgs false
open Go.RowKit
theorem exec_ldrow {o : Oper} {a : Act} {W : World} (t : TypeId) (x : Operand) (ho : o.op = .load t x) (N : Nat) (hx : a.eval x = .pointer (some ⟨N, 0, none⟩)) (C : Array Value) {e : TypeId} (hN : W.heap[N]? = some (.cells C e (0, 0))) {fs : Array Field} (hu : Tryz.prog.underlying t = some (.struct fs)) (hi : (Tryz.prog.info? t).map (·.size) = some C.size) : (execOp a.eval o).run Tryz.prog W = .ok (.value (.agg C)) W := by
 have hl := run_loadVar_row (P := Tryz.prog) W N e t C (0, 0) _ hN hu rfl hi
 unfold execOp
 simp only [ho, hx, Instr.loadAt, Instr.sureAddr, Sem.run_bind, Sem.run_pure, Result.andThen_ok, hl]
theorem Kz.below {b0 : Nat} {w U V : World} (h : Kz b0 U V) (hb : Below w.heap.size w U) (hl : w.heap.size ≤ b0) : Below w.heap.size w V :=
 ⟨h.2.2.1.trans hb.os, h.2.2.2.1.trans hb.tape, h.2.2.2.2.trans hb.output, Nat.le_trans hb.size h.1, fun k hk => (h.2.1 k (by have := hb.size; omega) (.inl (by omega))).trans (hb.block k hk)⟩
theorem StrsLow.up {b b' : Nat} {V : World} {a : Option Addr} {l : List ByteArray} (h : StrsLow b V a l) (hb : b ≤ b') : StrsLow b' V a l := by
 intro j s hj
 obtain ⟨B, e, hB, hc, hs⟩ := h j s hj
 exact ⟨B, e, Nat.lt_of_lt_of_le hB hb, hc, hs⟩
theorem StrsLow.bel {b : Nat} {V W : World} {a : Option Addr} {l : List ByteArray} (h : StrsLow b V a l) (hb : b ≤ V.heap.size) (k : Below V.heap.size V W) : StrsLow b W a l := by
 intro j s hj
 obtain ⟨B, e, hB, hc, hs⟩ := h j s hj
 exact ⟨B, e, hB, (k.cell (p := _) (Nat.lt_of_lt_of_le hB hb)).trans hc, hs⟩
theorem normM_sp (m : Mach) (S : ByteArray) (l : List Int) : ({ normM m S l with sp := (((normM m S l).st.length : Nat) : Int) } : Mach) = normM m S l := by
 unfold normM
 simp [List.length_take, Nat.min_comm]
theorem snapped_snC {W V : World} {m : Mach} {S : ByteArray} {C : Array Value} (h : Snapped W m S (.agg C) V) : ∃ p c p2 c2, C = snC m S (.slice p m.st.length c) (.slice p2 m.out.length c2) ∧ SnapIn W V m (.slice p m.st.length c) (.slice p2 m.out.length c2) := by
 obtain ⟨p, c, p2, c2, e, h⟩ := h
 injection e with e
 exact ⟨p, c, p2, c2, e, h⟩
set_option maxRecDepth 20000 in
set_option maxHeartbeats 20000000 in
theorem rStep_any {w : World} {E : Env} {m : Mach} {S : ByteArray} {l : List Int} {ps po : Option Addr} {cs co : Nat} (h : LoadIn w m S l ps po cs co) (hok : (normM m S l).Ok) (hok2 : ∀ n, stepM E (normM m S l) = .ok n → n.Ok) (hE : StrsLow w.heap.size w E.pb E.banks) (hbl : E.banks.length ≤ maxLen) (hl : l.length < 12) (ho : m.out.length < 1000000000000) (hin : E.tin = []) (hirq : E.tirq = []) : Calls Tryz.prog 8 #[.agg #[.slice E.pb E.banks.length E.cb, .int .u16 E.entry, .int .u16 E.vector, .slice E.pd E.nd E.cd, .slice E.pr E.nr E.cr], .agg #[.slice E.pin E.tin.length E.cin, .slice E.pirq E.tirq.length E.cirq], .agg #[.int .u16 (m.R 0), .int .u16 (m.R 1), .int .u16 (m.R 2), .int .u16 (m.R 3), .int .u16 (m.R 4), .int .u16 (m.R 5), .int .u16 (m.R 6), .int .u16 (m.R 7), .int .u16 m.pc, .int .u16 m.sp, .int .u16 m.fp, .int .u16 m.f, .int .i64 m.bank, .int .i64 m.steps, .int .i64 m.inputs, .int .i64 m.polls, .string S, .slice ps l.length cs, .slice po m.out.length co]] w (RanPost w (stepR E (normM m S l))) := by
 have HH := Lib.hid h
 have HE := Lib.hid hE
 have HBL := Lib.hid hbl
 have HIN := Lib.hid hin
 have HIRQ := Lib.hid hirq
 have HSP := Lib.hid (normM_sp m S l)
 have hst : (normM m S l).st.length < 12 := by unfold normM; simp [List.length_take]; omega
 obtain ⟨m2, hm2⟩ : ∃ m2, normM m S l = m2 := ⟨_, rfl⟩
 rw [hm2] at hok hok2 hst HSP ⊢
 have HM2 := Lib.hid hm2
 have HOK := Lib.hid hok
 have HOK2 := Lib.hid hok2
 have HL := Lib.hid hst
 have HOU : Hid (m2.out.length < 1000000000000) := Lib.hid (by rw [← hm2]; exact ho)
 have HREL := Lib.hid (step_rel E m2 hin hirq)
 obtain ⟨r, hrr⟩ : ∃ r, stepR E m2 = r := ⟨_, rfl⟩
 rw [hrr]
 have HRR := Lib.hid hrr
 clear h hok hok2 hE hbl hl ho hin hirq hst hm2 hrr
 go_enter Tryz.func8, Tryz.ntmps8
 go_upto_region 1 with (fail)
 generalize e0 : ((((w.alloc _).alloc _).alloc _).alloc _).alloc _ = W0
 obtain ⟨hI, hT, hS, hA, hB, hb0, hz0⟩ := five_blks _ _ _ _ _ _ _ e0
 have HI := Lib.hid hI
 have HT := Lib.hid hT
 have HS := Lib.hid hS
 have HA := Lib.hid hA
 have HB := Lib.hid hB
 have HB0 := Lib.hid hb0
 have HZ0 := Lib.hid hz0
 have HN0 := Lib.hid (HH.out.next hb0)
 clear e0 hI hT hS hA hB hb0 hz0
 go_wp2_with (first | refine wpList_load_row 29 _ rfl rfl w.heap.size rfl #[.slice E.pb E.banks.length E.cb, .int .u16 E.entry, .int .u16 E.vector, .slice E.pd E.nd E.cd, .slice E.pr E.nr E.cr] HI.out Tryz.underlying29 info35 ?_ | refine wpList_load_row 44 _ rfl rfl (w.heap.size + 1) rfl #[.slice E.pin E.tin.length E.cin, .slice E.pirq E.tirq.length E.cirq] HT.out Tryz.underlying44 info51 ?_ | refine wpList_load_row 36 _ rfl rfl (w.heap.size + 1 + 1) rfl #[.int .u16 (m.R 0), .int .u16 (m.R 1), .int .u16 (m.R 2), .int .u16 (m.R 3), .int .u16 (m.R 4), .int .u16 (m.R 5), .int .u16 (m.R 6), .int .u16 (m.R 7), .int .u16 m.pc, .int .u16 m.sp, .int .u16 m.fp, .int .u16 m.f, .int .i64 m.bank, .int .i64 m.steps, .int .i64 m.inputs, .int .i64 m.polls, .string S, .slice ps l.length cs, .slice po m.out.length co] HS.out Tryz.underlying36 info43 ?_)
 refine (load_ref HN0.out).mono ?_
 rintro e w2 ⟨B, g, sv, ov, rfl, hb2, hr2, _, _⟩
 rw [HM2.out] at hr2
 have hrm : RM W0.heap.size w2 E B g ⟨m2, 0, 0⟩ w2 := ⟨⟨sv, ov, hr2⟩, Kz.refl _ _⟩
 have HRM := Lib.hid hrm
 have HB2 := Lib.hid hb2
 have HE2 : Hid (StrsLow W0.heap.size w2 E.pb E.banks) := Lib.hid (((HE.out.bel (Nat.le_refl _) HB0.out).up HB0.out.size).bel (Nat.le_refl _) hb2)
 clear hb2 hr2 hrm
 go_wp2_with fail
 refine (step_z HRM.out HE2.out HBL.out HOK.out rfl HL.out HOU.out HIN.out HIRQ.out).mono ?_
 rintro e w3 ⟨rfl, s3, hw3, he3⟩
 obtain ⟨m3, k3, i3⟩ := s3
 have HB3 : Hid (Below W0.heap.size W0 w3) := Lib.hid (hw3.2.below HB2.out (Nat.le_refl _))
 obtain ⟨⟨sv3, ov3, hr3⟩, _⟩ := hw3
 have HR3 := Lib.hid hr3
 clear hr3 HRM
 have hrel := HREL.out
 generalize rstepM E m2 = rs at he3 hrel
 cases rs with
 | ok n =>
  dsimp only at hrel
  have e9 : (⟨m3, k3, i3⟩ : RSt) = ⟨n, 0, 0⟩ := he3
  injection e9 with e1 e2 e3
  subst e1 e2 e3
  have HN := Lib.hid (HOK2.out _ hrel)
  have HR : Hid (r = ({ m3 with sp := ((m3.st.length : Nat) : Int) }, (0, 0))) := Lib.hid (by rw [← HRR.out]; unfold stepR; rw [hrel])
  have hr : r = ({ m3 with sp := ((m3.st.length : Nat) : Int) }, (0, 0)) := HR.out
  have c26 := HR3.out.cell 26 (.int .i64 0) rfl
  clear he3 hrel HREL HRR HR
  subst hr
  go_wp2_with fail
  refine (snap_ref HR3.out HN.out.ram (by have := HN.out.len; exact this) (by have := HN.out.out; exact this)).mono ?_
  rintro e w4 ⟨C, rfl, hsn, hsz, hbel⟩
  have HB4 := Lib.hid (hbel W0 (Nat.le_refl _) HB3.out)
  obtain ⟨p3, c3, p4, c4, hC, hsin⟩ := snapped_snC hsn
  subst hC
  have HSN := Lib.hid hsin
  have HSZ := Lib.hid hsz
  clear hsn hsin hbel hsz c26
  have HA4 := Lib.hid (at_next HB4.out HA.out)
  have HB4' := Lib.hid (at_next HB4.out HB.out)
  have HBW : Hid (Below w.heap.size w w4) := Lib.hid (below_next HB0.out HB4.out)
  go_wp2_with (first | refine wpList_store_row 36 _ _ rfl rfl (w.heap.size + 1 + 1 + 1) rfl (snC { m3 with sp := ((m3.st.length : Nat) : Int) } (ramS m3.ram) (.slice p3 m3.st.length c3) (.slice p4 m3.out.length c4)) rfl HA4.out info43 rfl (snC_one _ _ _ _ _ _ _ _) ?_ | refine wpList_store_row 39 _ _ rfl rfl (w.heap.size + 1 + 1 + 1 + 1) rfl #[.int .i64 0, .int .u16 0] rfl (sr_oth (A := w.heap.size + 1 + 1 + 1) (by omega) HB4'.out rfl) info46 rfl (by simp [Value.oneCell']) ?_)
  generalize eA : World.setRow w4 _ _ = WA
  generalize eB : World.setRow WA _ _ = WB
  have HY := Lib.hid (sr_blk HA4.out eA)
  have HT2 := Lib.hid (sr_oth (A := w.heap.size + 1 + 1 + 1) (by omega) HB4'.out eA)
  have HS2 := Lib.hid (sr_snap HSN.out (by decide) HA4.out eA)
  have HW2 := Lib.hid (sr_bel HBW.out (by omega) eA)
  have HY3 := Lib.hid (sr_oth (A := w.heap.size + 1 + 1 + 1 + 1) (by omega) HY.out eB)
  have HT3 := Lib.hid (sr_blk HT2.out eB)
  have HS3 := Lib.hid (sr_snap HS2.out (by decide) HT2.out eB)
  have HW3 := Lib.hid (sr_bel HW2.out (by omega) eB)
  refine bodyPost_ret (v := .tuple #[.agg (snC { m3 with sp := ((m3.st.length : Nat) : Int) } (ramS m3.ram) (.slice p3 m3.st.length c3) (.slice p4 m3.out.length c4)), .agg #[.int .i64 0, .int .u16 0]]) (rows_result rfl _ _ (w.heap.size + 1 + 1 + 1) (w.heap.size + 1 + 1 + 1 + 1) _ _ 36 39 rfl rfl HY3.out HT3.out Tryz.underlying36 Tryz.underlying39 info43 info46) rfl ?_
  exact ⟨_, rfl, Snapped.low ⟨p3, c3, p4, c4, rfl, HS3.out⟩ (Nat.le_trans HB0.out.size HB3.out.size), HW3.out⟩
 | error t =>
  obtain ⟨t1, t2⟩ := t
  obtain ⟨e1, e2⟩ : k3 = t1 ∧ i3 = t2 := he3
  subst e1 e2
  obtain ⟨hrel, hk3⟩ : stepM E m2 = .error (k3, i3) ∧ k3 ≠ 0 := hrel
  have hr : r = (m2, (k3, i3)) := by rw [← HRR.out]; unfold stepR; rw [hrel]
  have e0 : (k3 != 0) = true := by rw [bne_iff_ne]; exact hk3
  have c26 := HR3.out.cell 26 (.int .i64 k3) rfl
  have hn26 : (rcells E m3 g sv3 ov3 k3 i3).toArray[26]? = some (.int .i64 k3) := rfl
  have hn27 : (rcells E m3 g sv3 ov3 k3 i3).toArray[27]? = some (.int .u16 i3) := rfl
  have hblk := HR3.out.blk
  obtain ⟨RC, hRC⟩ : ∃ RC, (rcells E m3 g sv3 ov3 k3 i3).toArray = RC := ⟨_, rfl⟩
  rw [hRC] at hn26 hn27 hblk
  have HBM := Lib.hid hblk
  have HC26 := Lib.hid hn26
  have HC27 := Lib.hid hn27
  have HBB : Hid (W0.heap.size ≤ B) := Lib.hid HR3.out.low.1
  clear hrel HREL HRR hk3 hRC hn26 hn27 hblk HR3 HE2
  subst hr
  go_upto_region 4 with (fail)
  clear e0 c26
  refine wp_region_noPanic ?_
  refine wp_region_held_drew (S := fun W => W.heap[w.heap.size]? = some (.cells #[.slice E.pb E.banks.length E.cb, .int .u16 E.entry, .int .u16 E.vector, .slice E.pd E.nd E.cd, .slice E.pr E.nr E.cr] 29 (0, 0)) ∧ W.heap[w.heap.size + 1]? = some (.cells #[.slice E.pin E.tin.length E.cin, .slice E.pirq E.tirq.length E.cirq] 44 (0, 0)) ∧ W.heap[w.heap.size + 1 + 1]? = some (.cells #[.int .u16 (m.R 0), .int .u16 (m.R 1), .int .u16 (m.R 2), .int .u16 (m.R 3), .int .u16 (m.R 4), .int .u16 (m.R 5), .int .u16 (m.R 6), .int .u16 (m.R 7), .int .u16 m.pc, .int .u16 m.sp, .int .u16 m.fp, .int .u16 m.f, .int .i64 m.bank, .int .i64 m.steps, .int .i64 m.inputs, .int .i64 m.polls, .string S, .slice ps l.length cs, .slice po m.out.length co] 36 (0, 0)) ∧ W.heap[B]? = some (.cells RC 59 (0, 0))) (by kernel_rfl) ⟨at_next (Below.drew (Below.refl _ _)) (at_next HB3.out HI.out), at_next (Below.drew (Below.refl _ _)) (at_next HB3.out HT.out), at_next (Below.drew (Below.refl _ _)) (at_next HB3.out HS.out), at_next (Below.drew (Below.refl _ _)) HBM.out⟩ (fun hHeld => ?_)
  have hbd : Below w3.heap.size w3 w3.drew := Below.drew (Below.refl _ _)
  generalize w3.drew = V9 at *
  have HB9 := Lib.hid (below_next HB3.out hbd)
  have HHELD := Lib.hid hHeld
  have KS : Hid (∀ W, Below V9.heap.size V9 W → W.heap[w.heap.size]? = some (.cells #[.slice E.pb E.banks.length E.cb, .int .u16 E.entry, .int .u16 E.vector, .slice E.pd E.nd E.cd, .slice E.pr E.nr E.cr] 29 (0, 0)) ∧ W.heap[w.heap.size + 1]? = some (.cells #[.slice E.pin E.tin.length E.cin, .slice E.pirq E.tirq.length E.cirq] 44 (0, 0)) ∧ W.heap[w.heap.size + 1 + 1]? = some (.cells #[.int .u16 (m.R 0), .int .u16 (m.R 1), .int .u16 (m.R 2), .int .u16 (m.R 3), .int .u16 (m.R 4), .int .u16 (m.R 5), .int .u16 (m.R 6), .int .u16 (m.R 7), .int .u16 m.pc, .int .u16 m.sp, .int .u16 m.fp, .int .u16 m.f, .int .i64 m.bank, .int .i64 m.steps, .int .i64 m.inputs, .int .i64 m.polls, .string S, .slice ps l.length cs, .slice po m.out.length co] 36 (0, 0)) ∧ W.heap[B]? = some (.cells RC 59 (0, 0))) := Lib.hid fun W hW => ⟨at_next hW HHELD.out.1, at_next hW HHELD.out.2.1, at_next hW HHELD.out.2.2.1, at_next hW HHELD.out.2.2.2⟩
  clear hHeld hbd
  refine wpAnyH_take (i := 0) (v := ?v0) (by simp only [List.getElem?_toArray, List.getElem?_cons_succ, List.getElem?_cons_zero]; rfl) (by kernel_rfl) (by kernel_rfl) (by kernel_rfl) (fun _ _ _ h => h) (Or.inl ⟨by rfl, ?hy0⟩) (KS.out V9 (Below.refl _ _)) ?rest0
  case hy0 =>
   intro w9 hSw
   obtain ⟨q1, q2, q3, q4⟩ := hSw
   refine exec_ldrow 29 (.tmp 3) ?_ w.heap.size ?_ _ q1 Tryz.underlying29 info35 <;> rfl
  try simp only [Act.put, lA, lZ, lS]
  refine wpAnyH_take (i := 1) (v := ?v1) (by simp only [List.getElem?_toArray, List.getElem?_cons_succ, List.getElem?_cons_zero]; rfl) (by kernel_rfl) (by kernel_rfl) (by kernel_rfl) (fun _ _ _ h => h) (Or.inl ⟨by rfl, ?hy1⟩) (KS.out V9 (Below.refl _ _)) ?rest1
  case hy1 =>
   intro w9 hSw
   obtain ⟨q1, q2, q3, q4⟩ := hSw
   refine exec_ldrow 44 (.tmp 4) ?_ (w.heap.size + 1) ?_ _ q2 Tryz.underlying44 info51 <;> rfl
  try simp only [Act.put, lA, lZ, lS]
  refine wpAnyH_take (i := 2) (v := ?v2) (by simp only [List.getElem?_toArray, List.getElem?_cons_succ, List.getElem?_cons_zero]; rfl) (by kernel_rfl) (by kernel_rfl) (by kernel_rfl) (fun _ _ _ h => h) (Or.inl ⟨by rfl, ?hy2⟩) (KS.out V9 (Below.refl _ _)) ?rest2
  case hy2 =>
   intro w9 hSw
   obtain ⟨q1, q2, q3, q4⟩ := hSw
   refine exec_ldrow 36 (.tmp 5) ?_ (w.heap.size + 1 + 1) ?_ _ q3 Tryz.underlying36 info43 <;> rfl
  try simp only [Act.put, lA, lZ, lS]
  refine wpAnyH_take (i := 5) (v := ?v5) (by simp only [List.getElem?_toArray, List.getElem?_cons_succ, List.getElem?_cons_zero]; rfl) (by kernel_rfl) (by kernel_rfl) (by kernel_rfl) (fun _ _ _ h => h) (Or.inl ⟨by rfl, ?hy5⟩) (KS.out V9 (Below.refl _ _)) ?rest5
  case hy5 =>
   intro w9 hSw
   obtain ⟨q1, q2, q3, q4⟩ := hSw
   go_simp
   all_goals with_reducible rfl
  try simp only [Act.put, lA, lZ, lS]
  refine wpAnyH_take (i := 6) (v := ?v6) (by simp only [List.getElem?_toArray, List.getElem?_cons_succ, List.getElem?_cons_zero]; rfl) (by kernel_rfl) (by kernel_rfl) (by kernel_rfl) (fun _ _ _ h => h) (Or.inl ⟨by rfl, ?hy6⟩) (KS.out V9 (Below.refl _ _)) ?rest6
  case hy6 =>
   intro w9 hSw
   obtain ⟨q1, q2, q3, q4⟩ := hSw
   go_simp
   all_goals with_reducible rfl
  try simp only [Act.put, lA, lZ, lS]
  refine wpAnyH_take (i := 7) (v := ?v7) (by simp only [List.getElem?_toArray, List.getElem?_cons_succ, List.getElem?_cons_zero]; rfl) (by kernel_rfl) (by kernel_rfl) (by kernel_rfl) (fun _ _ _ h => h) (Or.inl ⟨by rfl, ?hy7⟩) (KS.out V9 (Below.refl _ _)) ?rest7
  case hy7 =>
   intro w9 hSw
   obtain ⟨q1, q2, q3, q4⟩ := hSw
   go_simp
   all_goals with_reducible rfl
  try simp only [Act.put, lA, lZ, lS]
  refine wpAnyH_take (i := 8) (v := ?v8) (by simp only [List.getElem?_toArray, List.getElem?_cons_succ, List.getElem?_cons_zero]; rfl) (by kernel_rfl) (by kernel_rfl) (by kernel_rfl) (fun _ _ _ h => h) (Or.inl ⟨by rfl, ?hy8⟩) (KS.out V9 (Below.refl _ _)) ?rest8
  case hy8 =>
   intro w9 hSw
   obtain ⟨q1, q2, q3, q4⟩ := hSw
   have k26 := (Lib.cell_of_heap q4 26).trans HC26.out
   have k27 := (Lib.cell_of_heap q4 27).trans HC27.out
   go_simp
   all_goals with_reducible rfl
  try simp only [Act.put, lA, lZ, lS]
  refine wpAnyH_ready (rs := [3]) (by kernel_rfl) (by simp) ?_
  refine (AllReadyH.cons (by simp only [List.getElem?_toArray, List.getElem?_cons_succ, List.getElem?_cons_zero]; rfl) (fun K hK => ?_) AllReadyH.nil)
  go_simp
  go_at_call 17
  refine (load_ref (HN0.out.next HB9.out)).mono ?_
  rintro e V1 ⟨B2, g2, sv2, ov2, rfl, h9, hr9, _, _⟩
  rw [HM2.out] at hr9
  refine hK.out _ _ (KS.out _ h9) (fun hHeld => ?_)
  have HR9 := Lib.hid hr9
  have HV1 := Lib.hid h9
  clear hK K hHeld hr9 h9
  try simp only [Act.put, lA, lZ, lS]
  refine wpAnyH_ready (rs := [4]) (by kernel_rfl) (by simp) ?_
  refine (AllReadyH.cons (by simp only [List.getElem?_toArray, List.getElem?_cons_succ, List.getElem?_cons_zero]; rfl) (fun K hK => ?_) AllReadyH.nil)
  go_simp
  go_at_call 19
  refine (snap_ref HR9.out HOK.out.ram HOK.out.len HOK.out.out).mono ?_
  rintro e V2 ⟨C, rfl, hsn, hsz, hbel⟩
  have hb2 := hbel V9 (Nat.le_refl _) HV1.out
  refine hK.out _ _ (KS.out _ hb2) (fun hHeld => ?_)
  rw [HSP.out] at hsn
  obtain ⟨p3, c3, p4, c4, hC, hsin⟩ := snapped_snC hsn
  subst hC
  have HSN := Lib.hid hsin
  have HSZ := Lib.hid hsz
  have HBV := Lib.hid hb2
  have HA4 := Lib.hid (at_next (below_next HB9.out hb2) HA.out)
  have HB4' := Lib.hid (at_next (below_next HB9.out hb2) HB.out)
  have HBW : Hid (Below w.heap.size w V2) := Lib.hid (below_next HB0.out (below_next HB9.out hb2))
  have HK2 := Lib.hid (KS.out _ hb2)
  clear hK K hHeld hsn hsin hbel hsz hb2
  try simp only [Act.put, lA, lZ, lS]
  refine wpAnyH_ready (rs := [9]) (by kernel_rfl) (by simp) ?_
  refine (AllReadyH.cons (by simp only [List.getElem?_toArray, List.getElem?_cons_succ, List.getElem?_cons_zero]; rfl) (fun K hK => ?_) AllReadyH.nil)
  refine wp_store_row 36 _ _ rfl (w.heap.size + 1 + 1 + 1) rfl (snC m2 (ramS m2.ram) (.slice p3 m2.st.length c3) (.slice p4 m2.out.length c4)) rfl HA4.out info43 rfl (snC_one _ _ _ _ _ _ _ _) ?_
  refine hK.out _ _ ⟨sr_oth (A := w.heap.size + 1 + 1 + 1) (by omega) HK2.out.1 rfl, sr_oth (A := w.heap.size + 1 + 1 + 1) (by omega) HK2.out.2.1 rfl, sr_oth (A := w.heap.size + 1 + 1 + 1) (by omega) HK2.out.2.2.1 rfl, sr_oth (A := w.heap.size + 1 + 1 + 1) (by have := HBB.out; have := at_lt HB.out; omega) HK2.out.2.2.2 rfl⟩ (fun hHeld => ?_)
  clear hK K
  try simp only [Act.put, lA, lZ, lS]
  generalize eA : World.setRow _ _ _ = WA at hHeld ⊢
  have HHA := Lib.hid hHeld
  have HY := Lib.hid (sr_blk HA4.out eA)
  have HT2 := Lib.hid (sr_oth (A := w.heap.size + 1 + 1 + 1) (by omega) HB4'.out eA)
  have HS2 := Lib.hid (sr_snap HSN.out (by decide) HA4.out eA)
  have HW2 := Lib.hid (sr_bel HBW.out (by omega) eA)
  clear eA hHeld
  refine wpAnyH_ready (rs := [10]) (by kernel_rfl) (by simp) ?_
  refine (AllReadyH.cons (by simp only [List.getElem?_toArray, List.getElem?_cons_succ, List.getElem?_cons_zero]; rfl) (fun K hK => ?_) AllReadyH.nil)
  refine wp_store_row 39 _ _ rfl (w.heap.size + 1 + 1 + 1 + 1) rfl #[.int .i64 k3, .int .u16 i3] rfl HT2.out info46 rfl (by simp [Value.oneCell']) ?_
  refine hK.out _ _ ⟨sr_oth (A := w.heap.size + 1 + 1 + 1 + 1) (by omega) HHA.out.1 rfl, sr_oth (A := w.heap.size + 1 + 1 + 1 + 1) (by omega) HHA.out.2.1 rfl, sr_oth (A := w.heap.size + 1 + 1 + 1 + 1) (by omega) HHA.out.2.2.1 rfl, sr_oth (A := w.heap.size + 1 + 1 + 1 + 1) (by have := HBB.out; have := at_lt HB.out; omega) HHA.out.2.2.2 rfl⟩ (fun hHeld => ?_)
  clear hK K
  try simp only [Act.put, lA, lZ, lS]
  generalize eB : World.setRow _ _ _ = WB at hHeld ⊢
  have HY3 := Lib.hid (sr_oth (A := w.heap.size + 1 + 1 + 1 + 1) (by omega) HY.out eB)
  have HT3 := Lib.hid (sr_blk HT2.out eB)
  have HS3 := Lib.hid (sr_snap HS2.out (by decide) HT2.out eB)
  have HW3 := Lib.hid (sr_bel HW2.out (by omega) eB)
  clear eB hHeld
  refine wpAnyH_done (by kernel_rfl) ?_ _
  refine NoPanic.normal ?_
  go_wp2_with fail
  refine bodyPost_ret (v := .tuple #[.agg (snC m2 (ramS m2.ram) (.slice p3 m2.st.length c3) (.slice p4 m2.out.length c4)), .agg #[.int .i64 k3, .int .u16 i3]]) (rows_result rfl _ _ (w.heap.size + 1 + 1 + 1) (w.heap.size + 1 + 1 + 1 + 1) _ _ 36 39 rfl rfl HY3.out HT3.out Tryz.underlying36 Tryz.underlying39 info43 info46) rfl ?_
  exact ⟨_, rfl, Snapped.low ⟨p3, c3, p4, c4, rfl, HS3.out⟩ (Nat.le_trans (Nat.le_trans HB0.out.size HB9.out.size) HV1.out.size), HW3.out⟩
end Go.Proofs.YtieaicdihingkaaGreat
