/- The reference's machine: ports. -/
import Derived.Test.YtieaicdihingkaaGreatZ8
namespace Go.Proofs.YtieaicdihingkaaGreat
set_option linter.unusedVariables false
set_option linter.unusedSimpArgs false
open Go.RowKit
variable {b0 : Nat} {U V : World} {E : Env} {B g : Nat} {s : RSt}
set_option maxRecDepth 20000 in
set_option maxHeartbeats 8000000 in
theorem po_out0 (h : RM b0 U E B g s V) (ok : s.m.Ok) (k0 : s.k = 0) (d : Nat) (hd : d < 8) (si imm aux bank size nx : Int) (hi : OkU16 imm) (h0 : imm = 0) : Calls Tryz.prog 28 #[.pointer (some ⟨B, 0, none⟩), .agg #[.int .i64 145, .int .i64 (d : Int), .int .i64 si, .int .u16 imm, .int .u16 aux, .int .i64 bank, .int .i64 size], .int .u16 nx] V (LeavesR b0 U E B g s ((.ok (portsM E s.m 145 d imm)))) := by
 obtain ⟨HZ, HR, HU⟩ := box_z h 145 d si imm aux bank size
 have OK := Lib.hid ok
 have K0 := Lib.hid k0
 have HD := Lib.hid hd
 have HI := Lib.hid hi
 have d0 : (0 : Int) ≤ (d : Int) := by omega
 have d1 : (d : Int) < 8 := by omega
 have H0 := Lib.hid h0
 clear h ok k0 hd hi h0
 go_enter Tryz.func28, Tryz.ntmps28
 go_upto_region 1 with (fail)
 generalize V.alloc _ = W0 at *
 obtain ⟨q, hq⟩ : ∃ q, V.heap.size = q := ⟨_, rfl⟩
 rw [hq] at HZ ⊢
 clear hq
 obtain ⟨i0, i1, i2, i3, i4, i5, i6⟩ := HZ.out.at (Kz.refl b0 W0)
 have h0 := H0.out
 subst h0
 have c21 := HR.out.cell 21 (.int .i64 s.m.inputs) (fun _ _ => rfl)
 have c22 := HR.out.cell 22 (.int .i64 s.m.polls) (fun _ _ => rfl)
 obtain ⟨k, hk0⟩ : ∃ k : Nat, max s.m.inputs 0 = (k : Int) := ⟨(max s.m.inputs 0).toNat, by omega⟩
 have mA : (if s.m.inputs < 0 then (0 : Int) else s.m.inputs) = (k : Int) := by split <;> omega
 obtain ⟨k2, hk2⟩ : ∃ k2 : Nat, max s.m.polls 0 = (k2 : Int) := ⟨(max s.m.polls 0).toNat, by omega⟩
 have mB : (if s.m.polls < 0 then (0 : Int) else s.m.polls) = (k2 : Int) := by split <;> omega
 have hRb := OK.out.R d
 unfold OkU16 at hRb
 have q1 : (s.m.R d).tmod 64 = s.m.R d % 64 := Int.tmod_eq_emod_of_nonneg hRb.1
 have q2 : IntKind.u16.wrap (s.m.R d % 64) = s.m.R d % 64 := by rw [IntKind.wrap_u16]; omega
 have q3 : IntKind.i64.wrap (s.m.R d % 64) = s.m.R d % 64 := IntWalk.i64_in _ (by omega)
 clear hRb
 go_upto_region 11 with (fail)
 clear i0 i1 i2 i3 i4 i5 i6 c21 c22
 refine' wp_region_flowR [[], [], [], [(95, 2)], [(94, 1)], [(97, 4)], [(98, 5)], [(99, 6), (96, 3)], [(100, 7)], [(101, 8)], [(102, 9)], [(93, 0)], [(104, 11)], [(105, 12)], [(93, 0), (94, 1), (95, 2), (96, 3), (97, 4), (98, 5), (99, 6), (100, 7), (101, 8), (102, 9), (103, 10), (104, 11), (105, 12), (106, 13)]] (relL [eqV _, eqV _, eqV _, eqV _, eqV _, eqV _, eqV _, eqV _, eqV _, eqV _, eqV _, eqV _, eqV _, eqV _]) (by kernel_rfl) (by kernel_rfl) ?_
 rotate_left 14
 iterate 14
  refine FlowR.step ?_ ?_
  ·intro V hV
   simp only [Dep, lQ]
   repeat rintro _ ⟨_, rfl, _⟩
   intro K hK
   obtain ⟨i0, i1, i2, i3, i4, i5, i6⟩ := HZ.out.at ((Kz.refl b0 W0).next hV)
   have cR := (HR.out.next hV).cellR d HD.out
   have c19 := (HR.out.next hV).cell 19 (.int .i64 s.m.bank) (fun _ _ => rfl)
   have z19 := (HR.out.next hV).frz 19
   go_simp
   refine hK _ _ ?_ (Below.refl _ _)
   simp only [lR]
   exact rfl
 refine FlowR.last ?_
 intro V hV
 simp only [Dep, lQ]
 repeat rintro _ ⟨_, rfl, _⟩
 intro K hK
 obtain ⟨i0, i1, i2, i3, i4, i5, i6⟩ := HZ.out.at ((Kz.refl b0 W0).next hV)
 have cR := (HR.out.next hV).cellR d HD.out
 have c19 := (HR.out.next hV).cell 19 (.int .i64 s.m.bank) (fun _ _ => rfl)
 have z19 := (HR.out.next hV).frz 19
 go_simp
 refine hK _ _ ?_
 generalize eA : World.setCell _ _ _ = WA
 have HQ : Hid (RM b0 W0 E B g { s with m := { s.m with bank := s.m.R d % 64 } } WA) := Lib.hid ((HR.out.next hV).put 19 _ eA (fun _ _ => rfl) rfl rfl rfl)
 clear hK hV eA i0 i1 i2 i3 i4 i5 i6 cR c19 z19
 go_wp2_with fail
 refine ends (v := .tuple #[]) (by simp [results, Tryz.results28]) rfl ⟨rfl, _, HU.out.from HQ.out, ?_⟩
 unfold EndsR portsM
 rw [if_pos rfl, if_pos rfl]
set_option maxRecDepth 20000 in
set_option maxHeartbeats 8000000 in
theorem po_in0 (h : RM b0 U E B g s V) (ok : s.m.Ok) (k0 : s.k = 0) (d : Nat) (hd : d < 8) (si imm aux bank size nx : Int) (hi : OkU16 imm) (h0 : imm = 0) : Calls Tryz.prog 28 #[.pointer (some ⟨B, 0, none⟩), .agg #[.int .i64 144, .int .i64 (d : Int), .int .i64 si, .int .u16 imm, .int .u16 aux, .int .i64 bank, .int .i64 size], .int .u16 nx] V (LeavesR b0 U E B g s ((.ok (portsM E s.m 144 d imm)))) := by
 obtain ⟨HZ, HR, HU⟩ := box_z h 144 d si imm aux bank size
 have OK := Lib.hid ok
 have K0 := Lib.hid k0
 have HD := Lib.hid hd
 have HI := Lib.hid hi
 have d0 : (0 : Int) ≤ (d : Int) := by omega
 have d1 : (d : Int) < 8 := by omega
 have H0 := Lib.hid h0
 clear h ok k0 hd hi h0
 go_enter Tryz.func28, Tryz.ntmps28
 go_upto_region 1 with (fail)
 generalize V.alloc _ = W0 at *
 obtain ⟨q, hq⟩ : ∃ q, V.heap.size = q := ⟨_, rfl⟩
 rw [hq] at HZ ⊢
 clear hq
 obtain ⟨i0, i1, i2, i3, i4, i5, i6⟩ := HZ.out.at (Kz.refl b0 W0)
 have h0 := H0.out
 subst h0
 have c21 := HR.out.cell 21 (.int .i64 s.m.inputs) (fun _ _ => rfl)
 have c22 := HR.out.cell 22 (.int .i64 s.m.polls) (fun _ _ => rfl)
 obtain ⟨k, hk0⟩ : ∃ k : Nat, max s.m.inputs 0 = (k : Int) := ⟨(max s.m.inputs 0).toNat, by omega⟩
 have mA : (if s.m.inputs < 0 then (0 : Int) else s.m.inputs) = (k : Int) := by split <;> omega
 obtain ⟨k2, hk2⟩ : ∃ k2 : Nat, max s.m.polls 0 = (k2 : Int) := ⟨(max s.m.polls 0).toNat, by omega⟩
 have mB : (if s.m.polls < 0 then (0 : Int) else s.m.polls) = (k2 : Int) := by split <;> omega
 have q2 : IntKind.u16.wrap s.m.bank = s.m.bank % 65536 := IntKind.wrap_u16 _
 go_upto_region 4 with (fail)
 clear i0 i1 i2 i3 i4 i5 i6 c21 c22
 refine' wp_region_flowR [[], [], [(32, 1)], [], [(34, 3)], [(35, 4)], [(36, 5)], [(37, 6)], [(38, 7)], [(31, 0)], [(40, 9)], [(41, 10)], [(42, 11), (33, 2)], [(31, 0), (32, 1), (33, 2), (34, 3), (35, 4), (36, 5), (37, 6), (38, 7), (39, 8), (40, 9), (41, 10), (42, 11), (43, 12)]] (relL [eqV _, eqV _, eqV _, eqV _, eqV _, eqV _, eqV _, eqV _, eqV _, eqV _, eqV _, eqV _, eqV _]) (by kernel_rfl) (by kernel_rfl) ?_
 rotate_left 13
 iterate 13
  refine FlowR.step ?_ ?_
  ·intro V hV
   simp only [Dep, lQ]
   repeat rintro _ ⟨_, rfl, _⟩
   intro K hK
   obtain ⟨i0, i1, i2, i3, i4, i5, i6⟩ := HZ.out.at ((Kz.refl b0 W0).next hV)
   have cR := (HR.out.next hV).cellR d HD.out
   have c19 := (HR.out.next hV).cell 19 (.int .i64 s.m.bank) (fun _ _ => rfl)
   have zR := (HR.out.next hV).frz (7 + d)
   go_simp
   refine hK _ _ ?_ (Below.refl _ _)
   simp only [lR]
   exact rfl
 refine FlowR.last ?_
 intro V hV
 simp only [Dep, lQ]
 repeat rintro _ ⟨_, rfl, _⟩
 intro K hK
 obtain ⟨i0, i1, i2, i3, i4, i5, i6⟩ := HZ.out.at ((Kz.refl b0 W0).next hV)
 have cR := (HR.out.next hV).cellR d HD.out
 have c19 := (HR.out.next hV).cell 19 (.int .i64 s.m.bank) (fun _ _ => rfl)
 have zR := (HR.out.next hV).frz (7 + d)
 go_simp
 refine hK _ _ ?_
 generalize eA : World.setCell _ _ _ = WA
 have HQ := Lib.hid ((HR.out.next hV).putR d HD.out _ eA)
 clear hK hV eA i0 i1 i2 i3 i4 i5 i6 cR c19 zR
 go_wp2_with fail
 refine ends (v := .tuple #[]) (by simp [results, Tryz.results28]) rfl ⟨rfl, _, HU.out.from HQ.out, ?_⟩
 unfold EndsR portsM
 rw [if_neg (by decide), if_pos rfl]
 rfl
set_option maxRecDepth 20000 in
set_option maxHeartbeats 8000000 in
theorem po_in (h : RM b0 U E B g s V) (ok : s.m.Ok) (k0 : s.k = 0) (d : Nat) (hd : d < 8) (si imm aux bank size nx : Int) (hi : OkU16 imm) (h0 : imm ≠ 0) (ht : E.tin = []) : Calls Tryz.prog 28 #[.pointer (some ⟨B, 0, none⟩), .agg #[.int .i64 144, .int .i64 (d : Int), .int .i64 si, .int .u16 imm, .int .u16 aux, .int .i64 bank, .int .i64 size], .int .u16 nx] V (LeavesR b0 U E B g s ((.ok (portsM E s.m 144 d imm)))) := by
 obtain ⟨HZ, HR, HU⟩ := box_z h 144 d si imm aux bank size
 have OK := Lib.hid ok
 have K0 := Lib.hid k0
 have HD := Lib.hid hd
 have HI := Lib.hid hi
 have d0 : (0 : Int) ≤ (d : Int) := by omega
 have d1 : (d : Int) < 8 := by omega
 have H0 := Lib.hid h0
 have HT := Lib.hid ht
 clear ht h ok k0 hd hi h0
 go_enter Tryz.func28, Tryz.ntmps28
 go_upto_region 1 with (fail)
 generalize V.alloc _ = W0 at *
 obtain ⟨q, hq⟩ : ∃ q, V.heap.size = q := ⟨_, rfl⟩
 rw [hq] at HZ ⊢
 clear hq
 obtain ⟨i0, i1, i2, i3, i4, i5, i6⟩ := HZ.out.at (Kz.refl b0 W0)
 have c21 := HR.out.cell 21 (.int .i64 s.m.inputs) (fun _ _ => rfl)
 have c22 := HR.out.cell 22 (.int .i64 s.m.polls) (fun _ _ => rfl)
 obtain ⟨k, hk0⟩ : ∃ k : Nat, max s.m.inputs 0 = (k : Int) := ⟨(max s.m.inputs 0).toNat, by omega⟩
 have mA : (if s.m.inputs < 0 then (0 : Int) else s.m.inputs) = (k : Int) := by split <;> omega
 obtain ⟨k2, hk2⟩ : ∃ k2 : Nat, max s.m.polls 0 = (k2 : Int) := ⟨(max s.m.polls 0).toNat, by omega⟩
 have mB : (if s.m.polls < 0 then (0 : Int) else s.m.polls) = (k2 : Int) := by split <;> omega
 have ht := HT.out
 have c5 := HR.out.cell 5 (.slice E.pin 0 E.cin) (fun _ _ => by rw [show (0 : Nat) = E.tin.length by rw [ht]; rfl]; rfl)
 clear ht
 have e0 : (imm == 0) = false := by rw [beq_eq_false_iff_ne]; exact H0.out
 have hn : ¬ ((k : Int) < 0) := by omega
 go_upto_region 6 with (fail)
 clear e0 i0 i1 i2 i3 i4 i5 i6 c21 c22
 refine' wp_region_flowR [[], [], [(49, 1)], [(48, 0)], [(51, 3)], [(52, 4)], [(53, 5), (50, 2)], [(48, 0), (49, 1), (50, 2), (51, 3), (52, 4), (53, 5), (54, 6)]] (relL [eqV _, eqV _, eqV _, eqV _, eqV _, eqV _, eqV _]) (by kernel_rfl) (by kernel_rfl) ?_
 rotate_left 7
 iterate 7
  refine FlowR.step ?_ ?_
  ·intro V hV
   simp only [Dep, lQ]
   repeat rintro _ ⟨_, rfl, _⟩
   intro K hK
   obtain ⟨i0, i1, i2, i3, i4, i5, i6⟩ := HZ.out.at ((Kz.refl b0 W0).next hV)
   have cR := (HR.out.next hV).cellR d HD.out
   have zR := (HR.out.next hV).frz (7 + d)
   go_simp
   refine hK _ _ ?_ (Below.refl _ _)
   simp only [lR]
   exact rfl
 refine FlowR.last ?_
 intro V hV
 simp only [Dep, lQ]
 repeat rintro _ ⟨_, rfl, _⟩
 intro K hK
 obtain ⟨i0, i1, i2, i3, i4, i5, i6⟩ := HZ.out.at ((Kz.refl b0 W0).next hV)
 have cR := (HR.out.next hV).cellR d HD.out
 have zR := (HR.out.next hV).frz (7 + d)
 go_simp
 refine hK _ _ ?_
 generalize eA : World.setCell _ _ _ = WA
 have HQ := Lib.hid ((HR.out.next hV).putR d HD.out _ eA)
 have cS := (HR.out.next hV).cell 5 (.slice E.pin 0 E.cin) (fun _ _ => by rw [show (0 : Nat) = E.tin.length by rw [HT.out]; rfl]; rfl)
 have cT := HQ.out.cell 5 (.slice E.pin 0 E.cin) (fun _ _ => by rw [show (0 : Nat) = E.tin.length by rw [HT.out]; rfl]; rfl)
 clear hK hV eA i0 i1 i2 i3 i4 i5 i6 cR zR cS
 go_wp2_with fail
 refine ends (v := .tuple #[]) (by simp [results, Tryz.results28]) rfl ⟨rfl, _, HU.out.from HQ.out, ?_⟩
 unfold EndsR portsM inM
 rw [if_neg (by decide), if_neg H0.out, HT.out]
 rfl
theorem Kz.grown51 {b0 : Nat} {U V W : World} (h : Kz b0 U V) {row : Option Nat} (hg : V.grownBy W row) (hr : ∀ q, row = some q → b0 ≤ q ∧ ∃ c f, V.heap[q]? = some (.cells c 51 f)) : Kz b0 U W := by
 refine ⟨Nat.le_trans h.1 hg.size, fun k hk hc => (hg.block k (Nat.lt_of_lt_of_le hk h.1) fun e => ?_).trans (h.2.1 k hk hc), hg.os.trans h.2.2.1, hg.tape.trans h.2.2.2.1, hg.output.trans h.2.2.2.2⟩
 obtain ⟨hl, c, f, hq⟩ := hr k e.symm
 exact h.ne hq hl (.inr (.inr (.inr rfl))) hk hc rfl
theorem RM.outs {b0 : Nat} {U V : World} {E : Env} {B g : Nat} {s : RSt} (h : RM b0 U E B g s V) : ∃ ov, V.cell? ⟨B, 25, none⟩ = some ov ∧ V.ownsRow b0 51 2 ov s.m.out.length (outC s.m.out) := by
 obtain ⟨⟨sv, ov, hr⟩, hb⟩ := h
 exact ⟨ov, hr.cell 25 ov rfl, hr.out⟩
theorem RM.growOut {b0 : Nat} {U V W9 : World} {E : Env} {B g : Nat} {s : RSt} {ov v9 : Value} {l : List (Int × Int)} (h : RM b0 U E B g s V) (hown : V.ownsRow b0 51 2 ov s.m.out.length (outC s.m.out)) (hc : V.cell? ⟨B, 25, none⟩ = some ov) (hown9 : W9.ownsRow b0 51 2 v9 l.length (outC l)) (hg : V.grownBy W9 ov.ownBlock) :
  (∃ u, W9.cell? ⟨B, 25, none⟩ = some u) ∧ W9.frozen? ⟨B, 25, none⟩ = false ∧ ∀ W, W9.setCell ⟨B, 25, none⟩ v9 = W → RM b0 U E B g { s with m := { s.m with out := l } } W := by
 obtain ⟨⟨sv, ov', hr⟩, hb⟩ := h
 obtain rfl : ov' = ov := by
  have h9 := hr.cell 25 ov' rfl
  rw [hc] at h9
  injection h9 with h9
  exact h9.symm
 have ne : ∀ q, ov'.ownBlock = some q → ∃ c f, V.heap[q]? = some (.cells c 51 f) := fun q e => (own_kind hown q e).2
 have hB : some B ≠ ov'.ownBlock := fun e => by
  obtain ⟨c, f, hk⟩ := ne B e.symm
  rw [hr.blk] at hk
  simp at hk
 obtain ⟨cur, r1, r2, r3⟩ := hr.ram
 have hG : some g ≠ ov'.ownBlock := fun e => by
  obtain ⟨c, f, hk⟩ := ne g e.symm
  rw [r1] at hk
  simp at hk
 have hb9 := (hg.block B (at_lt hr.blk) hB).trans hr.blk
 have hg9 := (hg.block g (at_lt r1) hG).trans r1
 have ho9 := hr.st.kept hg (kinds_ap hr.st hown (by decide))
 refine ⟨⟨_, Lib.cell_of_heap hb9 25⟩, at_fr hb9 25, fun W e => ⟨⟨sv, v9, ⟨?_, ⟨cur, sc_oth hr.ne hg9 e, r2, r3⟩, ?_, ?_, hr.low⟩⟩, ?_⟩⟩
 ·rw [sc_blk hb9 e]
  simp [rcells, mcells]
 ·rw [← e]; exact own_set' ho9 hb9 (by decide)
 ·rw [← e]; exact own_set' hown9 hb9 (by decide)
 ·exact (hb.grown51 hg fun q e => ⟨(hown.lt q e).1, ne q e⟩).set hb9 hr.low.1 (.inl rfl) e
set_option maxRecDepth 20000 in
set_option maxHeartbeats 8000000 in
theorem po_out (h : RM b0 U E B g s V) (ok : s.m.Ok) (k0 : s.k = 0) (d : Nat) (hd : d < 8) (si imm aux bank size nx : Int) (hi : OkU16 imm) (h0 : imm ≠ 0) (ho : s.m.out.length < 1000000000000) : Calls Tryz.prog 28 #[.pointer (some ⟨B, 0, none⟩), .agg #[.int .i64 145, .int .i64 (d : Int), .int .i64 si, .int .u16 imm, .int .u16 aux, .int .i64 bank, .int .i64 size], .int .u16 nx] V (LeavesR b0 U E B g s ((.ok (portsM E s.m 145 d imm)))) := by
 obtain ⟨HZ, HR, HU⟩ := box_z h 145 d si imm aux bank size
 have OK := Lib.hid ok
 have K0 := Lib.hid k0
 have HD := Lib.hid hd
 have HI := Lib.hid hi
 have d0 : (0 : Int) ≤ (d : Int) := by omega
 have d1 : (d : Int) < 8 := by omega
 have H0 := Lib.hid h0
 have HO := Lib.hid ho
 clear ho
 clear h ok k0 hd hi h0
 go_enter Tryz.func28, Tryz.ntmps28
 go_upto_region 1 with (fail)
 generalize V.alloc _ = W0 at *
 obtain ⟨q, hq⟩ : ∃ q, V.heap.size = q := ⟨_, rfl⟩
 rw [hq] at HZ ⊢
 clear hq
 obtain ⟨i0, i1, i2, i3, i4, i5, i6⟩ := HZ.out.at (Kz.refl b0 W0)
 have c21 := HR.out.cell 21 (.int .i64 s.m.inputs) (fun _ _ => rfl)
 have c22 := HR.out.cell 22 (.int .i64 s.m.polls) (fun _ _ => rfl)
 obtain ⟨k, hk0⟩ : ∃ k : Nat, max s.m.inputs 0 = (k : Int) := ⟨(max s.m.inputs 0).toNat, by omega⟩
 have mA : (if s.m.inputs < 0 then (0 : Int) else s.m.inputs) = (k : Int) := by split <;> omega
 obtain ⟨k2, hk2⟩ : ∃ k2 : Nat, max s.m.polls 0 = (k2 : Int) := ⟨(max s.m.polls 0).toNat, by omega⟩
 have mB : (if s.m.polls < 0 then (0 : Int) else s.m.polls) = (k2 : Int) := by split <;> omega
 have e0 : (imm == 0) = false := by rw [beq_eq_false_iff_ne]; exact H0.out
 obtain ⟨ov, c25, hown0⟩ := HR.out.outs
 have HOW := Lib.hid hown0
 have HX : Hid (OkU16 (s.m.R d)) := Lib.hid (OK.out.R d)
 have HI5 : Hid (∃ i, Tryz.prog.info? 51 = some i ∧ i.zero = some (.agg #[.int .u16 0, .int .u16 0]) ∧ i.size = 2 ∧ i.bytes = 4) := Lib.hid (by
  have := info54
  cases h : Tryz.prog.info? 51 with
  | none => rw [h] at this; cases this
  | some y => rw [h] at this; simp at this; exact ⟨y, rfl, this⟩)
 clear hown0
 go_upto_region 13 with (fail)
 clear e0 i0 i1 i2 i3 i4 i5 i6 c21 c22
 refine' wp_region_flowT [1, 2, 3, 4, 5, 6, 7, 8, 9, 10, 11, 12, 13, 14, 15, 16] [17, 20] [[], [], [(112, 1)], [(113, 2)], [(114, 3)], [], [(116, 5)], [], [], [(119, 8)], [(118, 7)], [(121, 10)], [(122, 11)], [(123, 12), (120, 9)], [(124, 13)], [(117, 6), (125, 14)], [(126, 15)], [(115, 4), (127, 16)], [(111, 0)], [(129, 18)], [(130, 19), (128, 17)]] [(111, 0), (112, 1), (113, 2), (114, 3), (115, 4), (116, 5), (117, 6), (118, 7), (119, 8), (120, 9), (121, 10), (122, 11), (123, 12), (124, 13), (125, 14), (126, 15), (127, 16), (129, 18), (130, 19)] (relL [eqV _, eqV _, eqV _, eqV _, eqV _, eqV _, eqV _, eqV _, eqV _, eqV _, eqV _, eqV _, eqV _, eqV _, eqV _, eqV _, NewE imm (s.m.R d), fun v V => True, eqV _, eqV _, fun v V => True]) [(17, _), (20, _)] (by kernel_rfl) (by kernel_rfl) rfl ?_ ?_
 rotate_left 18
 ·refine FlowT.val (by decide) _ (fun _ _ => Iff.rfl) ?_ ?_
  ·simp only [DepP, lQ]
   intro V K hK
   go_simp
   exact hK
  iterate 15
   refine FlowT.mem (by decide) ?_ ?_
   ·intro V3 hV3
    simp only [Dep, lQ]
    repeat rintro _ ⟨_, rfl, _⟩
    intro K hK
    obtain ⟨i0, i1, i2, i3, i4, i5, i6⟩ := HZ.out.at ((Kz.refl b0 W0).next hV3)
    have cR := (HR.out.next hV3).cellR d HD.out
    have cO := (hV3.cell (p := ⟨B, 25, none⟩) HR.out.lt).trans c25
    go_simp
    refine hK _ _ ?_ (Below.refl _ _)
    simp only [lR]
    exact rfl
  refine FlowT.mem (by decide) ?_ ?_
  ·intro V3 hV3
   simp only [Dep, lQ]
   rintro x60 ⟨V60, rfl, hb60⟩
   intro K hK
   go_simp
   exact hK _ _ ⟨V3, rfl, rfl⟩ (below1 _ _)
  refine FlowT.store (by decide) rfl ?_
  iterate 2
   refine FlowT.val (by decide) _ (fun _ _ => Iff.rfl) ?_ ?_
   ·simp only [DepP, lQ]
    repeat rintro _ ⟨_, rfl⟩
    intro V K hK
    go_simp
    exact hK
  refine FlowT.store (by decide) rfl ?_
  exact FlowT.nil
 ·intro V3 hV3
  simp only [Dep, lQ]
  rintro x45 ⟨V45, rfl, hb45⟩
  rintro x46 ⟨V46, rfl, hb46⟩
  rintro x47 ⟨V47, rfl, hb47⟩
  rintro x48 ⟨V48, rfl, hb48⟩
  rintro x49 ⟨V49, rfl, hb49⟩
  rintro x50 ⟨V50, rfl, hb50⟩
  rintro x51 ⟨V51, rfl, hb51⟩
  rintro x52 ⟨V52, rfl, hb52⟩
  rintro x53 ⟨V53, rfl, hb53⟩
  rintro x54 ⟨V54, rfl, hb54⟩
  rintro x55 ⟨V55, rfl, hb55⟩
  rintro x56 ⟨V56, rfl, hb56⟩
  rintro x57 ⟨V57, rfl, hb57⟩
  rintro x58 ⟨V58, rfl, hb58⟩
  rintro x59 ⟨V59, rfl, hb59⟩
  rintro x60 ⟨V60, rfl, hb60⟩
  rintro x61 ⟨V61, ⟨W9, rfl, rfl⟩, hb61⟩
  rintro x63 ⟨V63, rfl, hb63⟩
  rintro x64 ⟨V64, rfl, hb64⟩
  have HR3 := Lib.hid (HR.out.next hV3)
  have cO := (hV3.cell (p := ⟨B, 25, none⟩) HR.out.lt).trans c25
  have HO3 := Lib.hid (own_next HOW.out hV3)
  clear hV3
  intro K1 hK1
  obtain ⟨i9, hi9, hz9, hs9, hb9⟩ := HI5.out
  refine (if_pos (by rfl)).mpr ?_
  refine wp_append_lies _ _ _ _ rfl b0 51 i9 (.agg #[.int .u16 0, .int .u16 0]) 2 4 Tryz.underlying34 hi9 hz9 hs9 hb9 rfl (by decide) _ _ _ rfl HO3.out ⟨W9.heap.size, 0, none⟩ 1 1 [.int .u16 imm, .int .u16 (s.m.R d)] rfl rfl (news_at hb61 _ rfl) (by simp [Value.oneCell']) (by decide) (by have := HO.out; unfold maxLen; omega) (by have := HO.out; omega) (by have := HR3.out.lt; have := HR3.out.low; omega) _ rfl ?_
  intro g9 cap w3 hown hg _ _
  refine hK1 _ _ ?_
  simp only [lQ]
  clear hK1 K1 hi9 hz9 hs9 hb9
  obtain ⟨⟨u, k25⟩, f25, hput⟩ := HR3.out.growOut (l := s.m.out ++ [(imm, s.m.R d)]) HO3.out cO (by have h9 := hown; rw [show outC s.m.out ++ [.int .u16 imm, .int .u16 (s.m.R d)] = outC (s.m.out ++ [(imm, s.m.R d)]) by unfold outC; rw [List.flatMap_append]; rfl] at h9; rw [List.length_append]; exact h9) hg
  intro K1 hK1
  go_simp
  refine hK1 undef _ ?_
  generalize eA : World.setCell _ _ _ = WA
  have HQ := Lib.hid (hput _ eA)
  clear hK1 K1 f25 k25 hput hown hg cO eA
  unfold TailS
  go_wp2_with fail
  refine ends (v := .tuple #[]) (by simp [results, Tryz.results28]) rfl ⟨rfl, _, HU.out.from HQ.out, ?_⟩
  unfold EndsR portsM
  rw [if_pos rfl, if_neg H0.out]
set_option maxRecDepth 20000 in
set_option maxHeartbeats 8000000 in
theorem po_poll (h : RM b0 U E B g s V) (ok : s.m.Ok) (k0 : s.k = 0) (d : Nat) (hd : d < 8) (si imm aux bank size nx : Int) (hi : OkU16 imm) (h0 : E.tirq = []) : Calls Tryz.prog 28 #[.pointer (some ⟨B, 0, none⟩), .agg #[.int .i64 4, .int .i64 (d : Int), .int .i64 si, .int .u16 imm, .int .u16 aux, .int .i64 bank, .int .i64 size], .int .u16 nx] V (LeavesR b0 U E B g s ((.ok s.m))) := by
 obtain ⟨HZ, HR, HU⟩ := box_z h 4 d si imm aux bank size
 have OK := Lib.hid ok
 have K0 := Lib.hid k0
 have HD := Lib.hid hd
 have HI := Lib.hid hi
 have d0 : (0 : Int) ≤ (d : Int) := by omega
 have d1 : (d : Int) < 8 := by omega
 have H0 := Lib.hid h0
 clear h ok k0 hd hi h0
 go_enter Tryz.func28, Tryz.ntmps28
 go_upto_region 1 with (fail)
 generalize V.alloc _ = W0 at *
 obtain ⟨q, hq⟩ : ∃ q, V.heap.size = q := ⟨_, rfl⟩
 rw [hq] at HZ ⊢
 clear hq
 obtain ⟨i0, i1, i2, i3, i4, i5, i6⟩ := HZ.out.at (Kz.refl b0 W0)
 have c21 := HR.out.cell 21 (.int .i64 s.m.inputs) (fun _ _ => rfl)
 have c22 := HR.out.cell 22 (.int .i64 s.m.polls) (fun _ _ => rfl)
 obtain ⟨k, hk0⟩ : ∃ k : Nat, max s.m.inputs 0 = (k : Int) := ⟨(max s.m.inputs 0).toNat, by omega⟩
 have mA : (if s.m.inputs < 0 then (0 : Int) else s.m.inputs) = (k : Int) := by split <;> omega
 obtain ⟨k2, hk2⟩ : ∃ k2 : Nat, max s.m.polls 0 = (k2 : Int) := ⟨(max s.m.polls 0).toNat, by omega⟩
 have mB : (if s.m.polls < 0 then (0 : Int) else s.m.polls) = (k2 : Int) := by split <;> omega
 have c6 := HR.out.cell 6 (.slice E.pirq 0 E.cirq) (fun _ _ => by rw [show (0 : Nat) = E.tirq.length by rw [H0.out]; rfl]; rfl)
 have hn : ¬ ((k2 : Int) < 0) := by omega
 go_wp2_with fail
 refine ends (v := .tuple #[]) (by simp [results, Tryz.results28]) rfl ⟨rfl, _, HU.out, ?_⟩
 rfl
end Go.Proofs.YtieaicdihingkaaGreat
