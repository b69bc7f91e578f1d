/- The reference's step. -/
import Derived.Test.YtieaicdihingkaaGreatZ14
import Derived.Test.YtieaicdihingkaaGreatZ9
import Derived.Test.YtieaicdihingkaaGreatZ10
import Derived.Test.YtieaicdihingkaaGreatZ11
import Derived.Test.YtieaicdihingkaaGreatZ12
namespace Go.Proofs.YtieaicdihingkaaGreat
set_option linter.unusedVariables false
set_option linter.unusedSimpArgs false
open Go.RowKit
def stepped (m : Mach) (size : Int) : Mach := { addPc m size with steps := wrap64 (m.steps + 1) }
def rstepM (E : Env) (m : Mach) : Except (Int × Int) Mach :=
 match fetchM E m with
 | .error t => .error t
 | .ok i => execM E (stepped m i.size) i i.d.toNat i.s.toNat
theorem fetchB_kind {E : Env} {m : Mach} {k : Nat} {t : Int × Int} (h : fetchB E m k = .error t) : t.1 = 2 := by
 unfold fetchB at h
 split at h
 ·split at h
  ·cases h
  ·cases h; rfl
 ·cases h; rfl
theorem fetchL_kind {E : Env} {m : Mach} {t : Int × Int} : ∀ k, fetchL E m k = .error t → t.1 = 2
 | 0, h => by cases h
 | k + 1, h => by
  unfold fetchL at h
  cases e : fetchL E m k with
  | error t' => rw [e] at h; cases h; exact fetchL_kind k e
  | ok l =>
   rw [e] at h
   dsimp only at h
   cases e2 : fetchB E m k with
   | error t' => rw [e2] at h; cases h; exact fetchB_kind e2
   | ok c => rw [e2] at h; cases h
theorem fetchM_kind {E : Env} {m : Mach} {t : Int × Int} (h : fetchM E m = .error t) : t.1 ≠ 0 := by
 unfold fetchM at h
 split at h
 ·cases h; decide
 ·cases e : fetchL E m 1 with
  | error t' => rw [e] at h; cases h; rw [fetchL_kind 1 e]; decide
  | ok l1 =>
   rw [e] at h
   dsimp only at h
   cases e2 : fetchL E m (fetchN (l1.headD 0)) with
   | error t' => rw [e2] at h; cases h; rw [fetchL_kind _ e2]; decide
   | ok l =>
    rw [e2] at h
    dsimp only at h
    split at h
    ·cases h
    ·cases h; decide
theorem decI_valid {s : ByteArray} (h : (decI s).2 = 0) : validI (decI s).1 = true := by
 unfold decI at h ⊢
 by_cases h0 : s.size = 0
 ·rw [if_pos h0] at h; exact absurd h (by decide)
 ·rw [if_neg h0] at h ⊢
  cases e : fmtOf (byteI s 0) with
  | none => rw [e] at h; simp at h
  | some fs =>
   rw [e] at h
   dsimp only at h ⊢
   by_cases h1 : (s.size : Int) < sizeI (byteI s 0)
   ·rw [if_pos h1] at h; exact absurd h (by decide)
   ·rw [if_neg h1] at h ⊢
    by_cases h2 : validI (readI s fs) = true
    ·rw [if_pos h2]; exact h2
    ·rw [if_neg h2] at h; exact absurd h (by decide)
theorem fetch_valid {E : Env} {m : Mach} {i : InsI} (h : fetchM E m = .ok i) : validI i = true := by
 unfold fetchM at h
 split at h
 ·cases h
 ·cases e : fetchL E m 1 with
  | error t' => rw [e] at h; cases h
  | ok l1 =>
   rw [e] at h
   dsimp only at h
   cases e2 : fetchL E m (fetchN (l1.headD 0)) with
   | error t' => rw [e2] at h; cases h
   | ok l =>
    rw [e2] at h
    dsimp only at h
    split at h
    ·cases h; exact decI_valid ‹_›
    ·cases h
theorem valid_op {i : InsI} (h : validI i = true) : (0 ≤ i.op ∧ i.op ≤ 5) ∨ (16 ≤ i.op ∧ i.op ≤ 21) ∨ (32 ≤ i.op ∧ i.op ≤ 46) ∨ (48 ≤ i.op ∧ i.op ≤ 62) ∨ (64 ≤ i.op ∧ i.op ≤ 78) ∨ (80 ≤ i.op ∧ i.op ≤ 91) ∨ (96 ≤ i.op ∧ i.op ≤ 127) ∨ (128 ≤ i.op ∧ i.op ≤ 134) ∨ (144 ≤ i.op ∧ i.op ≤ 147) ∨ i.op = 150 ∨ (160 ≤ i.op ∧ i.op ≤ 163) := by
 unfold validI at h
 cases e : fmtOf i.op with
 | none => rw [e] at h; cases h
 | some fs =>
  obtain ⟨a, b, hm, ha, hb⟩ := fmtFind_mem i.op fs formatL e
  clear h e
  generalize i.op = op at *
  have : ∀ x ∈ formatL, (0 ≤ x.1 ∧ x.2.1 ≤ 5) ∨ (16 ≤ x.1 ∧ x.2.1 ≤ 21) ∨ (32 ≤ x.1 ∧ x.2.1 ≤ 46) ∨ (48 ≤ x.1 ∧ x.2.1 ≤ 62) ∨ (64 ≤ x.1 ∧ x.2.1 ≤ 78) ∨ (80 ≤ x.1 ∧ x.2.1 ≤ 91) ∨ (96 ≤ x.1 ∧ x.2.1 ≤ 127) ∨ (128 ≤ x.1 ∧ x.2.1 ≤ 134) ∨ (144 ≤ x.1 ∧ x.2.1 ≤ 147) ∨ (150 ≤ x.1 ∧ x.2.1 ≤ 150) ∨ (160 ≤ x.1 ∧ x.2.1 ≤ 163) := by decide
  have := this _ hm
  dsimp only at this
  omega
theorem valid_bank {d s imm aux bank size op : Int} (h : validI ⟨op, d, s, imm, aux, bank, size⟩ = true) (ho : op = 146 ∨ op = 147) : 0 ≤ bank ∧ bank < 64 := by
 have e : fmtOf op = some [1, 8, 6, 0] := by rcases ho with rfl | rfl <;> rfl
 unfold validI at h
 rw [e] at h
 simp [fitI] at h
 omega
theorem RM.put20 {b0 : Nat} {U V W : World} {E : Env} {B g : Nat} {s : RSt} (h : RM b0 U E B g s V) {x : Int} (e : V.setCell ⟨B, 20, none⟩ (.int .i64 x) = W) : RM b0 U E B g { s with m := { s.m with steps := x } } W := h.put 20 _ e (fun _ _ => rfl) rfl rfl rfl
theorem RM.insNe {b0 : Nat} {U V : World} {E : Env} {B g q : Nat} {s : RSt} {i : InsI} (h : RM b0 U E B g s V) (hq : InsZ V q i) : B ≠ q := fun e => by
 subst e
 obtain ⟨⟨sv, ov, h⟩, _⟩ := h
 have h9 := h.blk
 rw [hq] at h9
 simp at h9
theorem stepped_ok {m : Mach} (ok : m.Ok) (size : Int) : (stepped m size).Ok :=
 ⟨ok.R, ⟨by show 0 ≤ (m.pc + size) % 65536; omega, by show (m.pc + size) % 65536 < 65536; omega⟩, ok.sp, ok.fp, ok.f, ok.bank, wrap_i64_bd _, ok.inputs, ok.polls, ok.ram, ok.st, ok.len, ok.out, ok.outs⟩
theorem EndsR.of {s s1 s' : RSt} {r : Except (Int × Int) Mach} (h : EndsR s1 r s') (hk : s1.k = s.k) (hi : s1.i = s.i) : EndsR s r s' := by
 unfold EndsR at h ⊢
 cases r with
 | error t => exact h
 | ok m => simp only at h ⊢; rw [h, hk, hi]
theorem ends_rE {s : RSt} (h : s.k = 0) (r : Except (Int × Int) Mach) : EndsR s r (rE s r) := by
 cases r with
 | error t => exact rfail_ends h t.1 t.2
 | ok m => rfl
set_option maxRecDepth 20000 in
set_option maxHeartbeats 80000000 in
theorem step_z {b0 : Nat} {U V : World} {E : Env} {B g : Nat} {s : RSt} (h : RM b0 U E B g s V) (hE : StrsLow b0 U E.pb E.banks) (hl : E.banks.length ≤ maxLen) (ok : s.m.Ok) (k0 : s.k = 0) (hs : s.m.st.length < 12) (ho : s.m.out.length < 1000000000000) (hin : E.tin = []) (hirq : E.tirq = []) : Calls Tryz.prog 18 #[.pointer (some ⟨B, 0, none⟩)] V (LeavesR b0 U E B g s (rstepM E s.m)) := by
 have H := Lib.hid h
 have HF := Lib.hid (fetch_z h.over (fun j a hj => (hE.kz h.2) j a hj) hl ok k0)
 have HE := Lib.hid hE
 have HBL := Lib.hid hl
 have OK := Lib.hid ok
 have K0 := Lib.hid k0
 have HL := Lib.hid hs
 have HOU := Lib.hid ho
 have HIN := Lib.hid hin
 have HIRQ := Lib.hid hirq
 clear h hE hl ok k0 hs ho hin hirq
 go_enter Tryz.func18, Tryz.ntmps18
 go_wp2_with fail
 refine HF.out.mono ?_
 rintro e W1 ⟨i, s1, rfl, hr, hm⟩
 clear HF
 have HR := Lib.hid (H.out.from hr)
 clear hr
 obtain ⟨op, di, si, imm, aux, bank, size⟩ := i
 simp only [InsI.cells]
 cases hf : fetchM E s.m with
 | error t =>
  rw [hf] at hm
  obtain ⟨t1, t2⟩ := t
  dsimp only at hm
  have hk := fetchM_kind hf
  have HM : Hid (rstepM E s.m = .error (t1, t2)) := Lib.hid (by unfold rstepM; rw [hf])
  have e0 : (t1 != 0) = true := by rw [bne_iff_ne]; exact hk
  have HRW : Hid (∀ o, RM b0 U E B g s1 (W1.alloc o)) := Lib.hid fun o => HR.out.next (below1 W1 o)
  subst hm
  clear hf hk
  go_upto_region 1 with (fail)
  have HR2 := Lib.hid (HRW.out (.cells #[.int .i64 op, .int .i64 di, .int .i64 si, .int .u16 imm, .int .u16 aux, .int .i64 bank, .int .i64 size] 68))
  generalize W1.alloc _ = W2 at *
  have c26 := HR2.out.cell 26 (.int .i64 t1) (fun _ _ => rfl)
  go_wp2_with fail
  exact ends (v := .tuple #[]) (by simp [results, Tryz.results18]) rfl ⟨rfl, _, HR2.out, by rw [HM.out]; exact ⟨rfl, rfl⟩⟩
 | ok i' =>
  rw [hf] at hm
  obtain ⟨rfl, rfl⟩ := hm
  have hin := fetch_in hf
  have hva := fetch_valid hf
  have hvo := valid_op hva
  obtain ⟨⟨d0, d1⟩, ⟨r0, r1⟩, hi, ha, ⟨bk0, bk1⟩, ⟨z0, z1⟩⟩ := hin
  dsimp only at d0 d1 r0 r1 hi ha bk0 bk1 z0 z1 hvo
  obtain ⟨d, rfl⟩ : ∃ d : Nat, di = (d : Int) := ⟨di.toNat, by omega⟩
  obtain ⟨sr, rfl⟩ : ∃ d : Nat, si = (d : Int) := ⟨si.toNat, by omega⟩
  have hd : d < 8 := by omega
  have hsr : sr < 8 := by omega
  have HM : Hid (rstepM E s1.m = execM E (stepped s1.m size) ⟨op, d, sr, imm, aux, bank, size⟩ d sr) := Lib.hid (by unfold rstepM; rw [hf]; rfl)
  have HD := Lib.hid hd
  have HSR := Lib.hid hsr
  have HI : Hid (OkU16 imm) := Lib.hid hi
  have HAX : Hid (OkU16 aux) := Lib.hid ha
  have HBK : Hid (0 ≤ bank ∧ bank < 256) := Lib.hid ⟨bk0, bk1⟩
  have HVA := Lib.hid hva
  have HVO := Lib.hid hvo
  obtain ⟨pc, hpc⟩ : ∃ pc, s1.m.pc = pc := ⟨_, rfl⟩
  have HPC := Lib.hid hpc
  obtain ⟨pc2, hpc2⟩ : ∃ x, (pc + size) % 65536 = x := ⟨_, rfl⟩
  obtain ⟨st2, hst2⟩ : ∃ x, wrap64 (s1.m.steps + 1) = x := ⟨_, rfl⟩
  have HST : Hid ({ s1 with m := stepped s1.m size } = { s1 with m := { { s1.m with pc := pc2 } with steps := st2 } }) := Lib.hid (by unfold stepped addPc; rw [hpc, hpc2, hst2])
  have x1 : IntKind.u16.wrap size = size := by rw [IntKind.wrap_u16]; omega
  have x2 : IntKind.u16.wrap (pc + size) = pc2 := (IntKind.wrap_u16 _).trans hpc2
  have x3 : IntKind.i64.wrap (s1.m.steps + 1) = st2 := ((IntWalk.i64_left _).trans hst2)
  have k26 : s1.k = 0 := K0.out
  have HRW : Hid (∀ o, RM b0 U E B g s1 (W1.alloc o)) := Lib.hid fun o => HR.out.next (below1 W1 o)
  have HPC2 := Lib.hid hpc2
  clear hf hva hvo d0 d1 r0 r1 hi ha bk0 bk1 z0 z1 hd hsr hpc hpc2
  go_upto_region 1 with (fail)
  have HR2 := Lib.hid (HRW.out (.cells #[.int .i64 op, .int .i64 (d : Int), .int .i64 (sr : Int), .int .u16 imm, .int .u16 aux, .int .i64 bank, .int .i64 size] 68))
  have HQ2 : Hid (InsZ (W1.alloc (.cells #[.int .i64 op, .int .i64 (d : Int), .int .i64 (sr : Int), .int .u16 imm, .int .u16 aux, .int .i64 bank, .int .i64 size] 68)) W1.heap.size ⟨op, d, sr, imm, aux, bank, size⟩) := Lib.hid (alloc_at W1 _)
  obtain ⟨q, hq⟩ : ∃ q, W1.heap.size = q := ⟨_, rfl⟩
  rw [hq] at HQ2 ⊢
  generalize W1.alloc _ = W2 at *
  clear hq HRW HR
  have c26 := HR2.out.cell 26 (.int .i64 0) (fun _ _ => by rw [← k26]; rfl)
  clear k26
  go_upto_region 2 with (fail)
  clear c26
  refine wp_region_flow (S := fun W => Below W2.heap.size W2 W) (by kernel_rfl) (by kernel_rfl) (Below.drew (Below.refl _ _)) ?_
  iterate 10
   apply Flow.step
   ·intro V2 K hS hK
    obtain ⟨i0, i1, i2, i3, i4, i5, i6⟩ := HQ2.out.at ((Kz.refl b0 W2).next hS)
    have c15 : V2.cell? ⟨B, 15, none⟩ = some (.int .u16 pc) := (HR2.out.next hS).cell 15 _ (fun _ _ => by rw [← HPC.out]; rfl)
    go_simp
    exact hK _ hS
   simp only [lQ]
  refine Flow.done ?_
  intro V2 hS
  have HQ3 := Lib.hid (HQ2.out.next hS)
  have HR3 := Lib.hid (HR2.out.next hS)
  clear hS x1 x2 HQ2 HR2
  have c15 := HR3.out.cell 15 (.int .u16 pc) (fun _ _ => by rw [← HPC.out]; rfl)
  have z15 := HR3.out.frz 15
  go_upto_region 4 with (fail)
  generalize eA : World.setCell _ _ _ = W3
  have HR4 := Lib.hid (HR3.out.put15 eA)
  have HQ4 : Hid (InsZ W3 q ⟨op, d, sr, imm, aux, bank, size⟩) := Lib.hid (sc_oth (HR3.out.insNe HQ3.out) HQ3.out eA)
  clear eA c15 z15 HQ3 HR3
  have c20 := HR4.out.cell 20 (.int .i64 s1.m.steps) (fun _ _ => rfl)
  have z20 := HR4.out.frz 20
  go_upto_region 5 with (fail)
  generalize eA : World.setCell _ _ _ = W4
  have hr5 := HR4.out.put20 eA
  have e9 : RM b0 U E B g { s1 with m := stepped s1.m size } W4 := by rw [HST.out]; exact hr5
  have HR5 := Lib.hid e9
  have HQ5 : Hid (InsZ W4 q ⟨op, d, sr, imm, aux, bank, size⟩) := Lib.hid (sc_oth (HR4.out.insNe HQ4.out) HQ4.out eA)
  have OK2 := Lib.hid (stepped_ok OK.out size)
  have HL2 : Hid ((stepped s1.m size).st.length < 12) := Lib.hid HL.out
  have HO2 : Hid ((stepped s1.m size).out.length < 1000000000000) := Lib.hid HOU.out
  have hp2 : (stepped s1.m size).pc = pc2 := by show (s1.m.pc + size) % 65536 = pc2; rw [HPC.out]; exact HPC2.out
  have HP2 := Lib.hid hp2
  have HRE : Hid (∀ r s', EndsR { s1 with m := stepped s1.m size } r s' → EndsR s1 r s') := Lib.hid fun r s' h => h.of rfl rfl
  have K02 : Hid (({ s1 with m := stepped s1.m size } : RSt).k = 0) := Lib.hid K0.out
  obtain ⟨s2, hs2⟩ : ∃ s2 : RSt, { s1 with m := stepped s1.m size } = s2 := ⟨_, rfl⟩
  have hm2 : s2.m = stepped s1.m size := by rw [← hs2]
  rw [hs2] at HR5 HRE K02
  rw [← hm2] at OK2 HL2 HO2 HP2 HM
  clear eA hr5 e9 c20 z20 x3 hst2 hp2 hs2 hm2 HST OK HL HOU K0 HPC HR4 HQ4
  obtain ⟨i0, i1, i2, i3, i4, i5, i6⟩ := HQ5.out.at (Kz.refl b0 W4)
  have e15 : s2.m.pc = pc2 := HP2.out
  subst e15
  have hvo := HVO.out
  clear HVO HP2
  rcases hvo with ⟨o1, o2⟩ | ⟨o1, o2⟩ | ⟨o1, o2⟩ | ⟨o1, o2⟩ | ⟨o1, o2⟩ | ⟨o1, o2⟩ | ⟨o1, o2⟩ | ⟨o1, o2⟩ | ⟨o1, o2⟩ | rfl | ⟨o1, o2⟩
  ·have hoo : op = 0 ∨ op = 2 ∨ op = 4 ∨ op = 1 ∨ op = 3 ∨ op = 5 := by omega
   clear o1 o2
   rcases hoo with rfl | rfl | rfl | rfl | rfl | rfl
   ·go_wp2_with fail
    exact ends (v := .tuple #[]) (by simp [results, Tryz.results18]) rfl ⟨rfl, _, HR5.out, by rw [HM.out]; exact HRE.out _ _ (rfl)⟩
   ·go_wp2_with fail
    refine (fail_z HR5.out 1 0).mono ?_
    rintro e w ⟨rfl, hw⟩
    have HW := Lib.hid hw
    clear hw
    go_wp2_with fail
    exact ends (v := .tuple #[]) (by simp [results, Tryz.results18]) rfl ⟨rfl, _, HW.out, by rw [HM.out]; exact HRE.out _ _ (rfail_ends K02.out 1 0)⟩
   ·go_wp2_with fail
    refine (po_poll HR5.out OK2.out K02.out d HD.out sr imm aux bank size _ HI.out HIRQ.out).mono ?_
    rintro e w ⟨rfl, s9, hw, he⟩
    have HW := Lib.hid hw
    have HE9 := Lib.hid he
    clear hw he
    have HX : Hid (execM E s2.m ⟨4, d, sr, imm, aux, bank, size⟩ d sr = .ok s2.m) := Lib.hid (by show pollM E s2.m = _; unfold pollM; rw [HIRQ.out]; rfl)
    go_wp2_with fail
    exact ends (v := .tuple #[]) (by simp [results, Tryz.results18]) rfl ⟨rfl, _, HW.out, by rw [HM.out, HX.out]; exact HRE.out _ _ (HE9.out)⟩
   all_goals go_wp2_with fail
   refine (ct_ret HR5.out OK2.out K02.out d HD.out sr imm aux bank size HI.out HL2.out).mono ?_
   rotate_left
   refine (ct_iret HR5.out OK2.out K02.out d HD.out sr imm aux bank size HI.out HL2.out).mono ?_
   rotate_left
   refine (st_leave HR5.out OK2.out K02.out d HD.out sr imm aux bank size HI.out).mono ?_
   rotate_left
   all_goals
    rintro e w ⟨rfl, s9, hw, he⟩
    have HW := Lib.hid hw
    have HE9 := Lib.hid he
    clear hw he
    go_wp2_with fail
    exact ends (v := .tuple #[]) (by simp [results, Tryz.results18]) rfl ⟨rfl, _, HW.out, by rw [HM.out]; exact HRE.out _ _ (HE9.out)⟩
  ·have hoo : op = 18 ∨ op = 19 ∨ op = 16 ∨ op = 17 ∨ op = 20 ∨ op = 21 := by omega
   clear o1 o2
   rcases hoo with rfl | rfl | rfl | rfl | rfl | rfl
   ·go_wp2_with fail
    refine (neg_z HR5.out OK2.out d HD.out).mono ?_
    rintro e w ⟨rfl, hw⟩
    have HW := Lib.hid hw
    clear hw
    go_wp2_with fail
    exact ends (v := .tuple #[]) (by simp [results, Tryz.results18]) rfl ⟨rfl, _, HW.out, by rw [HM.out]; exact HRE.out _ _ (rfl)⟩
   ·go_wp2_with fail
    refine (not_z HR5.out OK2.out d HD.out).mono ?_
    rintro e w ⟨rfl, hw⟩
    have HW := Lib.hid hw
    clear hw
    go_wp2_with fail
    exact ends (v := .tuple #[]) (by simp [results, Tryz.results18]) rfl ⟨rfl, _, HW.out, by rw [HM.out]; exact HRE.out _ _ (rfl)⟩
   all_goals go_wp2_with fail
   refine (st_push HR5.out OK2.out K02.out d HD.out sr imm aux bank size HI.out).mono ?_
   rotate_left
   refine (st_pop HR5.out OK2.out K02.out d HD.out sr imm aux bank size HI.out).mono ?_
   rotate_left
   refine (st_enter HR5.out OK2.out K02.out d HD.out sr imm aux bank size HI.out).mono ?_
   rotate_left
   refine (st_drop HR5.out OK2.out K02.out d HD.out sr imm aux bank size HI.out).mono ?_
   rotate_left
   all_goals
    rintro e w ⟨rfl, s9, hw, he⟩
    have HW := Lib.hid hw
    have HE9 := Lib.hid he
    clear hw he
    go_wp2_with fail
    exact ends (v := .tuple #[]) (by simp [results, Tryz.results18]) rfl ⟨rfl, _, HW.out, by rw [HM.out]; exact HRE.out _ _ (HE9.out)⟩
  ·have HOP := Lib.hid (And.intro o1 o2)
   have n0 : (op == 0) = false := by rw [beq_eq_false_iff_ne]; omega
   have n2 : (op == 2) = false := by rw [beq_eq_false_iff_ne]; omega
   have n4 : (op == 4) = false := by rw [beq_eq_false_iff_ne]; omega
   have n144 : (op == 144) = false := by rw [beq_eq_false_iff_ne]; omega
   have n145 : (op == 145) = false := by rw [beq_eq_false_iff_ne]; omega
   have n20 : (op == 20) = false := by rw [beq_eq_false_iff_ne]; omega
   have n21 : (op == 21) = false := by rw [beq_eq_false_iff_ne]; omega
   have n5 : (op == 5) = false := by rw [beq_eq_false_iff_ne]; omega
   have n18 : (op == 18) = false := by rw [beq_eq_false_iff_ne]; omega
   have n19 : (op == 19) = false := by rw [beq_eq_false_iff_ne]; omega
   have g1 : decide ((16 : Int) ≤ op) = true := decide_eq_true (by omega)
   have g2 : decide (op ≤ (17 : Int)) = false := decide_eq_false (by omega)
   have g3 : decide ((160 : Int) ≤ op) = false := decide_eq_false (by omega)
   have a32 : decide ((32 : Int) ≤ op) = true := decide_eq_true (by omega)
   have b32 : decide (op ≤ (46 : Int)) = true := decide_eq_true (by omega)
   clear o1 o2
   go_upto_region 17 with (fail)
   clear i0 i1 i2 i3 i4 i5 i6
   have HX : Hid (execM E s2.m ⟨op, d, sr, imm, aux, bank, size⟩ d sr = arithM s2.m op d (s2.m.R sr)) := Lib.hid (by have := HOP.out; unfold execM; dsimp only; rw [if_neg (by omega), if_neg (by omega), if_neg (by omega), if_neg (by omega), if_neg (by omega), if_neg (by omega), if_pos (by omega)])
   clear n0 n2 n4 n144 n145 n20 n21 n5 n18 n19 g1 g2 g3 a32 b32
   have sr0 : (0 : Int) ≤ (sr : Int) := by omega
   have sr1 : (sr : Int) < 8 := by have := HSR.out; omega
   refine' wp_region_flowR [[], [], [], [(117, 2)], [], [], [(120, 5)], [(119, 4)], [(122, 7)], [(123, 8)], [(124, 9), (121, 6)], [(125, 10)], [(115, 0), (116, 1), (117, 2), (118, 3), (119, 4), (120, 5), (121, 6), (122, 7), (123, 8), (124, 9), (125, 10), (126, 11)]] (relL [eqV _, eqV _, eqV _, eqV _, eqV _, eqV _, eqV _, eqV _, eqV _, eqV _, eqV _, eqV _]) (by kernel_rfl) (by kernel_rfl) ?_
   rotate_left 12
   iterate 12
    refine FlowR.step ?_ ?_
    ·intro V hV
     simp only [Dep, lQ]
     repeat rintro _ ⟨_, rfl, _⟩
     intro K hK
     obtain ⟨i0, i1, i2, i3, i4, i5, i6⟩ := HQ5.out.at ((Kz.refl b0 W4).next hV)
     have cR : V.cell? ⟨B, 7 + sr, none⟩ = some (.int .u16 (s2.m.R sr)) := (HR5.out.next hV).cellR sr HSR.out
     go_simp
     refine hK _ _ ?_ (Below.refl _ _)
     simp only [lR]
     exact rfl
   refine FlowR.last ?_
   intro V hV
   simp only [Dep, lQ]
   repeat rintro _ ⟨_, rfl, _⟩
   intro K hK
   obtain ⟨i0, i1, i2, i3, i4, i5, i6⟩ := HQ5.out.at ((Kz.refl b0 W4).next hV)
   have cR : V.cell? ⟨B, 7 + sr, none⟩ = some (.int .u16 (s2.m.R sr)) := (HR5.out.next hV).cellR sr HSR.out
   go_simp
   go_at_call 31
   refine (arith_z (HR5.out.next hV) OK2.out op HOP.out d HD.out (s2.m.R sr) (OK2.out.R sr)).mono ?_
   rintro e w ⟨rfl, hw⟩
   refine hK _ _ ?_
   have HW := Lib.hid hw
   clear hw hV hK i0 i1 i2 i3 i4 i5 i6 cR
   go_wp2_with fail
   exact ends (v := .tuple #[]) (by simp [results, Tryz.results18]) rfl ⟨rfl, _, HW.out, by rw [HM.out, HX.out]; exact HRE.out _ _ (ends_rE K02.out _)⟩
  ·have HOP := Lib.hid (And.intro o1 o2)
   have n0 : (op == 0) = false := by rw [beq_eq_false_iff_ne]; omega
   have n2 : (op == 2) = false := by rw [beq_eq_false_iff_ne]; omega
   have n4 : (op == 4) = false := by rw [beq_eq_false_iff_ne]; omega
   have n144 : (op == 144) = false := by rw [beq_eq_false_iff_ne]; omega
   have n145 : (op == 145) = false := by rw [beq_eq_false_iff_ne]; omega
   have n20 : (op == 20) = false := by rw [beq_eq_false_iff_ne]; omega
   have n21 : (op == 21) = false := by rw [beq_eq_false_iff_ne]; omega
   have n5 : (op == 5) = false := by rw [beq_eq_false_iff_ne]; omega
   have n18 : (op == 18) = false := by rw [beq_eq_false_iff_ne]; omega
   have n19 : (op == 19) = false := by rw [beq_eq_false_iff_ne]; omega
   have g1 : decide ((16 : Int) ≤ op) = true := decide_eq_true (by omega)
   have g2 : decide (op ≤ (17 : Int)) = false := decide_eq_false (by omega)
   have g3 : decide ((160 : Int) ≤ op) = false := decide_eq_false (by omega)
   have a32 : decide ((32 : Int) ≤ op) = true := decide_eq_true (by omega)
   have b32 : decide (op ≤ (46 : Int)) = false := decide_eq_false (by omega)
   have a48 : decide ((48 : Int) ≤ op) = true := decide_eq_true (by omega)
   have b48 : decide (op ≤ (62 : Int)) = true := decide_eq_true (by omega)
   have xs : IntKind.i64.wrap (op - 16) = op - 16 := IntWalk.i64_in _ (by omega)
   clear o1 o2
   have HX : Hid (execM E s2.m ⟨op, d, sr, imm, aux, bank, size⟩ d sr = arithM s2.m (op - 16) d imm) := Lib.hid (by have := HOP.out; unfold execM; dsimp only; rw [if_neg (by omega), if_neg (by omega), if_neg (by omega), if_neg (by omega), if_neg (by omega), if_neg (by omega), if_neg (by omega), if_pos (by omega)])
   go_wp2_with fail
   refine (arith_z HR5.out OK2.out (op - 16) (by have := HOP.out; omega) d HD.out imm HI.out).mono ?_
   rintro e w ⟨rfl, hw⟩
   have HW := Lib.hid hw
   clear hw
   go_wp2_with fail
   exact ends (v := .tuple #[]) (by simp [results, Tryz.results18]) rfl ⟨rfl, _, HW.out, by rw [HM.out, HX.out]; exact HRE.out _ _ (ends_rE K02.out _)⟩
  ·have HOP := Lib.hid (And.intro o1 o2)
   have n0 : (op == 0) = false := by rw [beq_eq_false_iff_ne]; omega
   have n2 : (op == 2) = false := by rw [beq_eq_false_iff_ne]; omega
   have n4 : (op == 4) = false := by rw [beq_eq_false_iff_ne]; omega
   have n144 : (op == 144) = false := by rw [beq_eq_false_iff_ne]; omega
   have n145 : (op == 145) = false := by rw [beq_eq_false_iff_ne]; omega
   have n20 : (op == 20) = false := by rw [beq_eq_false_iff_ne]; omega
   have n21 : (op == 21) = false := by rw [beq_eq_false_iff_ne]; omega
   have n5 : (op == 5) = false := by rw [beq_eq_false_iff_ne]; omega
   have n18 : (op == 18) = false := by rw [beq_eq_false_iff_ne]; omega
   have n19 : (op == 19) = false := by rw [beq_eq_false_iff_ne]; omega
   have g1 : decide ((16 : Int) ≤ op) = true := decide_eq_true (by omega)
   have g2 : decide (op ≤ (17 : Int)) = false := decide_eq_false (by omega)
   have g3 : decide ((160 : Int) ≤ op) = false := decide_eq_false (by omega)
   have a32 : decide ((32 : Int) ≤ op) = true := decide_eq_true (by omega)
   have b32 : decide (op ≤ (46 : Int)) = false := decide_eq_false (by omega)
   have a48 : decide ((48 : Int) ≤ op) = true := decide_eq_true (by omega)
   have b48 : decide (op ≤ (62 : Int)) = false := decide_eq_false (by omega)
   have a64 : decide ((64 : Int) ≤ op) = true := decide_eq_true (by omega)
   have b64 : decide (op ≤ (78 : Int)) = true := decide_eq_true (by omega)
   have xs : IntKind.i64.wrap (op - 32) = op - 32 := IntWalk.i64_in _ (by omega)
   clear o1 o2
   have HX : Hid (execM E s2.m ⟨op, d, sr, imm, aux, bank, size⟩ d sr = arithM s2.m (op - 32) d imm) := Lib.hid (by have := HOP.out; unfold execM; dsimp only; rw [if_neg (by omega), if_neg (by omega), if_neg (by omega), if_neg (by omega), if_neg (by omega), if_neg (by omega), if_neg (by omega), if_neg (by omega), if_pos (by omega)])
   go_wp2_with fail
   refine (arith_z HR5.out OK2.out (op - 32) (by have := HOP.out; omega) d HD.out imm HI.out).mono ?_
   rintro e w ⟨rfl, hw⟩
   have HW := Lib.hid hw
   clear hw
   go_wp2_with fail
   exact ends (v := .tuple #[]) (by simp [results, Tryz.results18]) rfl ⟨rfl, _, HW.out, by rw [HM.out, HX.out]; exact HRE.out _ _ (ends_rE K02.out _)⟩
  ·have hoo : op = 80 ∨ op = 81 ∨ op = 82 ∨ op = 83 ∨ op = 84 ∨ op = 85 ∨ op = 86 ∨ op = 87 ∨ op = 88 ∨ op = 89 ∨ op = 90 ∨ op = 91 := by omega
   clear o1 o2
   rcases hoo with rfl | rfl | rfl | rfl | rfl | rfl | rfl | rfl | rfl | rfl | rfl | rfl
   all_goals go_wp2_with fail
   refine (ac_ld HR5.out OK2.out K02.out d HD.out sr HSR.out imm aux bank size HI.out 80 2 2 (.inl ⟨rfl, rfl, rfl⟩)).mono ?_
   rotate_left
   refine (ac_ld HR5.out OK2.out K02.out d HD.out sr HSR.out imm aux bank size HI.out 81 1 1 (.inr (.inl ⟨rfl, rfl, rfl⟩))).mono ?_
   rotate_left
   refine (ac_st HR5.out OK2.out K02.out d HD.out sr HSR.out imm aux bank size HI.out 82 2 2 (.inl ⟨rfl, rfl, rfl⟩)).mono ?_
   rotate_left
   refine (ac_st HR5.out OK2.out K02.out d HD.out sr HSR.out imm aux bank size HI.out 83 1 1 (.inr (.inl ⟨rfl, rfl, rfl⟩))).mono ?_
   rotate_left
   refine (ac_la HR5.out OK2.out K02.out d HD.out sr HSR.out imm aux bank size HI.out 84 2 2 (.inl ⟨rfl, rfl, rfl⟩)).mono ?_
   rotate_left
   refine (ac_la HR5.out OK2.out K02.out d HD.out sr HSR.out imm aux bank size HI.out 85 1 1 (.inr (⟨rfl, rfl, rfl⟩))).mono ?_
   rotate_left
   refine (ac_sa HR5.out OK2.out K02.out d HD.out sr HSR.out imm aux bank size HI.out 86 2 2 (.inl ⟨rfl, rfl, rfl⟩)).mono ?_
   rotate_left
   refine (ac_sa HR5.out OK2.out K02.out d HD.out sr HSR.out imm aux bank size HI.out 87 1 1 (.inr (⟨rfl, rfl, rfl⟩))).mono ?_
   rotate_left
   refine (ac_ld HR5.out OK2.out K02.out d HD.out sr HSR.out imm aux bank size HI.out 88 2 2 (.inr (.inr (.inl ⟨rfl, rfl, rfl⟩)))).mono ?_
   rotate_left
   refine (ac_ld HR5.out OK2.out K02.out d HD.out sr HSR.out imm aux bank size HI.out 89 1 1 (.inr (.inr (.inr (⟨rfl, rfl, rfl⟩))))).mono ?_
   rotate_left
   refine (ac_st HR5.out OK2.out K02.out d HD.out sr HSR.out imm aux bank size HI.out 90 2 2 (.inr (.inr (.inl ⟨rfl, rfl, rfl⟩)))).mono ?_
   rotate_left
   refine (ac_st HR5.out OK2.out K02.out d HD.out sr HSR.out imm aux bank size HI.out 91 1 1 (.inr (.inr (.inr (⟨rfl, rfl, rfl⟩))))).mono ?_
   rotate_left
   all_goals
    rintro e w ⟨rfl, s9, hw, he⟩
    have HW := Lib.hid hw
    have HE9 := Lib.hid he
    clear hw he
    go_wp2_with fail
    exact ends (v := .tuple #[]) (by simp [results, Tryz.results18]) rfl ⟨rfl, _, HW.out, by rw [HM.out]; exact HRE.out _ _ (HE9.out)⟩
  ·have HOP := Lib.hid (And.intro o1 o2)
   have n0 : (op == 0) = false := by rw [beq_eq_false_iff_ne]; omega
   have n2 : (op == 2) = false := by rw [beq_eq_false_iff_ne]; omega
   have n4 : (op == 4) = false := by rw [beq_eq_false_iff_ne]; omega
   have n144 : (op == 144) = false := by rw [beq_eq_false_iff_ne]; omega
   have n145 : (op == 145) = false := by rw [beq_eq_false_iff_ne]; omega
   have n20 : (op == 20) = false := by rw [beq_eq_false_iff_ne]; omega
   have n21 : (op == 21) = false := by rw [beq_eq_false_iff_ne]; omega
   have n5 : (op == 5) = false := by rw [beq_eq_false_iff_ne]; omega
   have n18 : (op == 18) = false := by rw [beq_eq_false_iff_ne]; omega
   have n19 : (op == 19) = false := by rw [beq_eq_false_iff_ne]; omega
   have n150 : (op == 150) = false := by rw [beq_eq_false_iff_ne]; omega
   have n146 : (op == 146) = false := by rw [beq_eq_false_iff_ne]; omega
   have n147 : (op == 147) = false := by rw [beq_eq_false_iff_ne]; omega
   have g1 : decide ((16 : Int) ≤ op) = true := decide_eq_true (by omega)
   have g2 : decide (op ≤ (17 : Int)) = false := decide_eq_false (by omega)
   have g3 : decide ((160 : Int) ≤ op) = false := decide_eq_false (by omega)
   have a32 : decide ((32 : Int) ≤ op) = true := decide_eq_true (by omega)
   have b32 : decide (op ≤ (46 : Int)) = false := decide_eq_false (by omega)
   have a48 : decide ((48 : Int) ≤ op) = true := decide_eq_true (by omega)
   have b48 : decide (op ≤ (62 : Int)) = false := decide_eq_false (by omega)
   have a64 : decide ((64 : Int) ≤ op) = true := decide_eq_true (by omega)
   have b64 : decide (op ≤ (78 : Int)) = false := decide_eq_false (by omega)
   have a80 : decide ((80 : Int) ≤ op) = true := decide_eq_true (by omega)
   have b80 : decide (op ≤ (91 : Int)) = false := decide_eq_false (by omega)
   clear o1 o2
   have HX : Hid (execM E s2.m ⟨op, d, sr, imm, aux, bank, size⟩ d sr = jccM s2.m op imm) := Lib.hid (by
    have := HOP.out
    have ha : accessM E s2.m ⟨op, d, sr, imm, aux, bank, size⟩ d sr = none := by unfold accessM; dsimp only; repeat (rw [if_neg (by omega)])
    have hs : stackM s2.m ⟨op, d, sr, imm, aux, bank, size⟩ d = none := by unfold stackM; dsimp only; repeat (rw [if_neg (by omega)])
    have hc : controlM E s2.m ⟨op, d, sr, imm, aux, bank, size⟩ d = some (jccM s2.m op imm) := by unfold controlM; dsimp only; rw [if_neg (by omega), if_neg (by omega), if_neg (by omega), if_neg (by omega), if_neg (by omega), if_neg (by omega), if_neg (by omega), if_neg (by omega), if_pos (by omega)]
    unfold execM
    dsimp only
    repeat (rw [if_neg (by omega)])
    unfold restM
    rw [ha, hs, hc])
   go_wp2_with fail
   refine (ct_jcc HR5.out OK2.out K02.out d HD.out op sr imm aux bank size HI.out HL2.out HOP.out.1 (by have := HOP.out; omega)).mono ?_
   rintro e w ⟨rfl, s9, hw, he⟩
   have HW := Lib.hid hw
   have HE9 := Lib.hid he
   clear hw he
   go_wp2_with fail
   exact ends (v := .tuple #[]) (by simp [results, Tryz.results18]) rfl ⟨rfl, _, HW.out, by rw [HM.out, HX.out]; exact HRE.out _ _ (HE9.out)⟩
  ·have hoo : op = 128 ∨ op = 129 ∨ op = 130 ∨ op = 131 ∨ op = 132 ∨ op = 133 ∨ op = 134 := by omega
   clear o1 o2
   rcases hoo with rfl | rfl | rfl | rfl | rfl | rfl | rfl
   all_goals go_wp2_with fail
   refine (ct_jmp HR5.out OK2.out K02.out d HD.out sr imm aux bank size HI.out HL2.out).mono ?_
   rotate_left
   refine (ct_jmpw HR5.out OK2.out K02.out d HD.out sr imm aux bank size HI.out HL2.out).mono ?_
   rotate_left
   refine (ct_call HR5.out OK2.out K02.out d HD.out sr imm aux bank size HI.out HL2.out).mono ?_
   rotate_left
   refine (ct_jmpf HR5.out OK2.out K02.out d HD.out sr imm aux bank size HI.out HL2.out).mono ?_
   rotate_left
   refine (ct_callf HR5.out OK2.out K02.out d HD.out sr imm aux bank size HI.out HL2.out).mono ?_
   rotate_left
   refine (ct_jtab HR5.out OK2.out K02.out d HD.out sr imm aux bank size HI.out HL2.out HE.out HBL.out).mono ?_
   rotate_left
   refine (ct_jmpi HR5.out OK2.out K02.out d HD.out sr imm aux bank size HI.out HL2.out HE.out HBL.out).mono ?_
   rotate_left
   all_goals
    rintro e w ⟨rfl, s9, hw, he⟩
    have HW := Lib.hid hw
    have HE9 := Lib.hid he
    clear hw he
    go_wp2_with fail
    exact ends (v := .tuple #[]) (by simp [results, Tryz.results18]) rfl ⟨rfl, _, HW.out, by rw [HM.out]; exact HRE.out _ _ (HE9.out)⟩
  ·have hoo : op = 144 ∨ op = 145 ∨ op = 146 ∨ op = 147 := by omega
   clear o1 o2
   rcases hoo with rfl | rfl | rfl | rfl
   ·by_cases hi0 : imm = 0
    ·have HI0 := Lib.hid hi0
     clear hi0
     go_wp2_with fail
     refine (po_in0 HR5.out OK2.out K02.out d HD.out sr imm aux bank size _ HI.out HI0.out).mono ?_
     rintro e w ⟨rfl, s9, hw, he⟩
     have HW := Lib.hid hw
     have HE9 := Lib.hid he
     clear hw he
     go_wp2_with fail
     exact ends (v := .tuple #[]) (by simp [results, Tryz.results18]) rfl ⟨rfl, _, HW.out, by rw [HM.out]; exact HRE.out _ _ (HE9.out)⟩
    ·have HI0 := Lib.hid hi0
     clear hi0
     go_wp2_with fail
     refine (po_in HR5.out OK2.out K02.out d HD.out sr imm aux bank size _ HI.out HI0.out HIN.out).mono ?_
     rintro e w ⟨rfl, s9, hw, he⟩
     have HW := Lib.hid hw
     have HE9 := Lib.hid he
     clear hw he
     go_wp2_with fail
     exact ends (v := .tuple #[]) (by simp [results, Tryz.results18]) rfl ⟨rfl, _, HW.out, by rw [HM.out]; exact HRE.out _ _ (HE9.out)⟩
   ·by_cases hi0 : imm = 0
    ·have HI0 := Lib.hid hi0
     clear hi0
     go_wp2_with fail
     refine (po_out0 HR5.out OK2.out K02.out d HD.out sr imm aux bank size _ HI.out HI0.out).mono ?_
     rintro e w ⟨rfl, s9, hw, he⟩
     have HW := Lib.hid hw
     have HE9 := Lib.hid he
     clear hw he
     go_wp2_with fail
     exact ends (v := .tuple #[]) (by simp [results, Tryz.results18]) rfl ⟨rfl, _, HW.out, by rw [HM.out]; exact HRE.out _ _ (HE9.out)⟩
    ·have HI0 := Lib.hid hi0
     clear hi0
     go_wp2_with fail
     refine (po_out HR5.out OK2.out K02.out d HD.out sr imm aux bank size _ HI.out HI0.out HO2.out).mono ?_
     rintro e w ⟨rfl, s9, hw, he⟩
     have HW := Lib.hid hw
     have HE9 := Lib.hid he
     clear hw he
     go_wp2_with fail
     exact ends (v := .tuple #[]) (by simp [results, Tryz.results18]) rfl ⟨rfl, _, HW.out, by rw [HM.out]; exact HRE.out _ _ (HE9.out)⟩
   ·have hb := valid_bank HVA.out (by decide)
    obtain ⟨bk, rfl⟩ : ∃ bk : Nat, bank = (bk : Int) := ⟨bank.toNat, by omega⟩
    have HB6 : Hid (bk < 64) := Lib.hid (by omega)
    clear hb
    go_wp2_with fail
    refine (ac_con HR5.out OK2.out K02.out d HD.out sr HSR.out bk imm aux size HI.out HB6.out HE.out HBL.out 146 2 2 (.inl ⟨rfl, rfl, rfl⟩)).mono ?_
    rintro e w ⟨rfl, s9, hw, he⟩
    have HW := Lib.hid hw
    have HE9 := Lib.hid he
    clear hw he
    go_wp2_with fail
    exact ends (v := .tuple #[]) (by simp [results, Tryz.results18]) rfl ⟨rfl, _, HW.out, by rw [HM.out]; exact HRE.out _ _ (HE9.out)⟩
   ·have hb := valid_bank HVA.out (by decide)
    obtain ⟨bk, rfl⟩ : ∃ bk : Nat, bank = (bk : Int) := ⟨bank.toNat, by omega⟩
    have HB6 : Hid (bk < 64) := Lib.hid (by omega)
    clear hb
    go_wp2_with fail
    refine (ac_con HR5.out OK2.out K02.out d HD.out sr HSR.out bk imm aux size HI.out HB6.out HE.out HBL.out 147 1 1 (.inr (⟨rfl, rfl, rfl⟩))).mono ?_
    rintro e w ⟨rfl, s9, hw, he⟩
    have HW := Lib.hid hw
    have HE9 := Lib.hid he
    clear hw he
    go_wp2_with fail
    exact ends (v := .tuple #[]) (by simp [results, Tryz.results18]) rfl ⟨rfl, _, HW.out, by rw [HM.out]; exact HRE.out _ _ (HE9.out)⟩
  ·go_wp2_with fail
   refine (ac_sti HR5.out OK2.out K02.out d HD.out sr HSR.out imm aux bank size HI.out HAX.out 150 2 2 ⟨rfl, rfl, rfl⟩).mono ?_
   rintro e w ⟨rfl, s9, hw, he⟩
   have HW := Lib.hid hw
   have HE9 := Lib.hid he
   clear hw he
   go_wp2_with fail
   exact ends (v := .tuple #[]) (by simp [results, Tryz.results18]) rfl ⟨rfl, _, HW.out, by rw [HM.out]; exact HRE.out _ _ (HE9.out)⟩
  ·have hoo : op = 160 ∨ op = 161 ∨ op = 162 ∨ op = 163 := by omega
   clear o1 o2
   rcases hoo with rfl | rfl | rfl | rfl
   all_goals go_wp2_with fail
   refine (st_lds HR5.out OK2.out K02.out d HD.out sr imm aux bank size HI.out).mono ?_
   rotate_left
   refine (st_sts HR5.out OK2.out K02.out d HD.out sr imm aux bank size HI.out).mono ?_
   rotate_left
   refine (st_ldf HR5.out OK2.out K02.out d HD.out sr imm aux bank size HI.out).mono ?_
   rotate_left
   refine (st_stf HR5.out OK2.out K02.out d HD.out sr imm aux bank size HI.out).mono ?_
   rotate_left
   all_goals
    rintro e w ⟨rfl, s9, hw, he⟩
    have HW := Lib.hid hw
    have HE9 := Lib.hid he
    clear hw he
    go_wp2_with fail
    exact ends (v := .tuple #[]) (by simp [results, Tryz.results18]) rfl ⟨rfl, _, HW.out, by rw [HM.out]; exact HRE.out _ _ (HE9.out)⟩
end Go.Proofs.YtieaicdihingkaaGreat
