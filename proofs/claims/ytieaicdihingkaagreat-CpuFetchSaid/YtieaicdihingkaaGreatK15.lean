/- ports: IN and OUT. -/
import Derived.Test.YtieaicdihingkaaGreatK13
import Derived.Deep.AppendLies
import Derived.Test.YtieaicdihingkaaGreatFlowU
namespace Go.Proofs.YtieaicdihingkaaGreat
set_option linter.unusedVariables false
set_option linter.unusedSimpArgs false
open Go.RowKit
def inM (E : Env) (m : Mach) (d : Nat) : Mach :=
 match E.tin[(max m.inputs 0).toNat]? with
 | some x => { setD m d x with inputs := max m.inputs 0 + 1 }
 | none => setD m d 0
def portsM (E : Env) (m : Mach) (op : Int) (d : Nat) (imm : Int) : Mach :=
 if op = 145 then (if imm = 0 then { m with bank := m.R d % 64 } else { m with out := m.out ++ [(imm, m.R d)] })
 else if imm = 0 then setD m d (m.bank % 65536) else inM E m d
def NewE (a b : Int) (v : Value) (V : World) : Prop := ∃ W9 : World, v = .slice (some ⟨W9.heap.size, 0, none⟩) 1 1 ∧ V = W9.alloc (.cells #[.int .u16 a, .int .u16 b] 51)
theorem Mach.Ok.outs' {m : Mach} (h : m.Ok) {a b : Int} (ha : OkU16 a) (hb : OkU16 b) (ho : m.out.length < 1000000000000) : Mach.Ok { m with out := m.out ++ [(a, b)] } := by
 obtain ⟨a1, a2, a3, a4, a5, a6, a7, a8, a9, a10, a11, a12, a13, a14⟩ := h
 refine ⟨a1, a2, a3, a4, a5, a6, a7, a8, a9, a10, a11, a12, ?_, ?_⟩
 ·show (m.out ++ [(a, b)]).length ≤ 1000000000000
  rw [List.length_append]; exact ho
 ·intro e he
  rcases List.mem_append.1 he with he | he
  ·exact a14 e he
  ·rw [List.mem_singleton] at he; subst he; exact ⟨ha, hb⟩
theorem out_at {E : Env} {V w' : World} {m : Mach} {sv ov v' : Value} {a b : Int} (h : MachAt E V m sv ov) (ha : OkU16 a) (hb : OkU16 b) (ho : m.out.length < 1000000000000)
  (hown : w'.ownsRow E.base 51 2 v' (m.out.length + 1) (outC m.out ++ [.int .u16 a, .int .u16 b])) (hg : V.grownBy w' ov.ownBlock) :
  MachAt E (w'.setCell ⟨E.B, 25, none⟩ v') { m with out := m.out ++ [(a, b)] } sv v' ∧ Keeps E.base V (w'.setCell ⟨E.B, 25, none⟩ v') ∧ w'.frozen? ⟨E.B, 25, none⟩ = false ∧ w'.cell? ⟨E.B, 25, none⟩ = some ov := by
 have hnB : some E.B ≠ ov.ownBlock := fun e => by
  obtain ⟨_, c, f, hk⟩ := own_kind h.out _ e.symm
  rw [h.blk] at hk; simp at hk
 have hkw : Keeps E.base V w' := Keeps.grown hg (fun k hk => by
  obtain ⟨a, c, f, hc⟩ := own_kind h.out k hk
  exact ⟨a, c, 51, f, hc, .inr (.inr (.inr rfl))⟩)
 have hat : w'.heap[E.B]? = some (.cells (mcells E m sv ov).toArray 63 (0, 0)) := (hg.block E.B h.lt hnB).trans h.blk
 have hKs : Keeps E.base w' (w'.setCell ⟨E.B, 25, none⟩ v') := Keeps.set hat h.env.lowB (.inl rfl)
 have hK : Keeps E.base V (w'.setCell ⟨E.B, 25, none⟩ v') := hkw.trans hKs
 obtain ⟨cur, hr, hs, hc⟩ := h.ram
 have hrn : some E.ramB ≠ ov.ownBlock := fun e => by
  obtain ⟨_, c, f, hk⟩ := own_kind h.out _ e.symm
  rw [hr] at hk; simp at hk
 have hr' := (hg.block E.ramB (Array.getElem?_eq_some_iff.1 hr).1 hrn).trans hr
 have hol : sv.ownBlock = none ∨ sv.ownBlock ≠ ov.ownBlock := by
  cases e : sv.ownBlock with
  | none => exact .inl rfl
  | some k =>
   refine .inr (fun e2 => ?_)
   obtain ⟨_, c1, f1, k1⟩ := own_kind h.st k e
   obtain ⟨_, c2, f2, k2⟩ := own_kind h.out k e2.symm
   rw [k1] at k2; simp at k2
 have hs' := h.st.kept hg hol
 refine ⟨⟨?_, ⟨cur, ?_, hs, hc⟩, own_set' hs' hat (by decide), ?_, h.bnk.keeps hK, h.inp.keeps hK, h.irq.keeps hK, h.ok.outs' ha hb ho, h.env⟩, hK, ?_, ?_⟩
 ·rw [setCell_blk hat]; simp [mcells]
 ·refine (Below.heap_setCell _ _ _ _ (fun e => ?_)).trans hr'
  simp only at e
  rw [e, hat] at hr'
  simp at hr'
 ·have := hown
  rw [show m.out.length + 1 = (m.out ++ [(a, b)]).length by simp, show outC m.out ++ [.int .u16 a, .int .u16 b] = outC (m.out ++ [(a, b)]) by unfold outC; rw [List.flatMap_append]; rfl] at this
  exact own_set' this hat (by decide)
 ·unfold World.frozen?; rw [hat]; simp
 ·rw [Lib.cell_of_heap hat]; rfl
theorem info54 : (Tryz.prog.info? 51).map (fun i => (i.zero, i.size, i.bytes)) = some (some (.agg #[.int .u16 0, .int .u16 0]), 2, 4) := by kernel_rfl
set_option maxRecDepth 8000 in
set_option maxHeartbeats 4000000 in
theorem ports_out0B {E : Env} {V : World} {m : Mach} {sv ov : Value} (h : MachAt E V m sv ov) (d : Nat) (si aux bank size : Int) (hd : d < 8) (hi : OkU16 0) (ho : m.out.length < 1000000000000) : Calls Tryz.prog 39 #[.pointer (some ⟨E.B, 0, none⟩), .agg #[.int .i64 145, .int .i64 (d : Int), .int .i64 si, .int .u16 0, .int .u16 aux, .int .i64 bank, .int .i64 size]] V (Done E V m sv ov (.ok (portsM E m 145 d 0))) := by
 obtain ⟨hI, HM, HBel, -⟩ := box26 h 145 d si 0 aux bank size
 have HI := Lib.hid hI
 have H := Lib.hid h
 have HD := Lib.hid hd
 have HII := Lib.hid hi
 have HO := Lib.hid ho
 obtain ⟨k, hk0⟩ : ∃ k : Nat, max m.inputs 0 = (k : Int) := ⟨(max m.inputs 0).toNat, by omega⟩
 have mA : (if m.inputs < 0 then (0 : Int) else m.inputs) = (k : Int) := by split <;> omega
 have d0 : (0 : Int) ≤ (d : Int) := by omega
 have d1 : (d : Int) < 8 := by omega
 clear h hI hd hi ho
 go_enter Tryz.func39, Tryz.ntmps39
 go_upto_region 1 with (fail)
 generalize V.alloc _ = W0 at *
 have KC := kcK (base := E.base) HI.out
 clear HI
 obtain ⟨i0, i1, i2, i3, i4, i5, i6⟩ := KC.out W0 (Keeps.refl _ _)
 have c21 := HM.out.cell 21 _ rfl
 have hRb := H.out.ok.R d
 unfold OkU16 at hRb
 have q1 : (m.R d).tmod 64 = m.R d % 64 := Int.tmod_eq_emod_of_nonneg hRb.1
 have q2 : IntKind.u16.wrap (m.R d % 64) = m.R d % 64 := by rw [IntKind.wrap_u16]; omega
 have q3 : IntKind.i64.wrap (m.R d % 64) = m.R d % 64 := IntWalk.i64_in _ (by omega)
 have HX : Hid (OkI64 (m.R d % 64)) := Lib.hid (by unfold OkI64; omega)
 have HR : Hid ((.ok (portsM E m 145 d 0) : Except (Int × Int) Mach) = .ok { m with bank := m.R d % 64 }) := Lib.hid (by unfold portsM; rw [if_pos rfl, if_pos rfl])
 clear hRb
 go_upto_region 4 with (fail)
 clear i0 i1 i2 i3 i4 i5 i6
 refine' wp_region_flowR [[], [], [], [(29, 2)], [(28, 1)], [(31, 4)], [(32, 5)], [(33, 6), (30, 3)], [(34, 7)], [(35, 8)], [(36, 9)], [(27, 0)], [(38, 11)], [(39, 12)], [(27, 0), (28, 1), (29, 2), (30, 3), (31, 4), (32, 5), (33, 6), (34, 7), (35, 8), (36, 9), (37, 10), (38, 11), (39, 12), (40, 13)]] (relL [eqV _, eqV _, eqV _, eqV _, eqV _, eqV _, eqV _, eqV _, eqV _, eqV _, eqV _, eqV _, eqV _, eqV _]) (by kernel_rfl) (by kernel_rfl) ?_
 rotate_left 14
 iterate 14
  refine FlowR.step ?_ ?_
  ·intro V3 hV
   simp only [Dep, lQ]
   repeat rintro _ ⟨_, rfl, _⟩
   intro K hK
   obtain ⟨i0, i1, i2, i3, i4, i5, i6⟩ := KC.out _ ((Keeps.refl E.base W0).trans (Keeps.of_below hV))
   obtain cR := (HM.out.next hV).cell (7 + d) _ (mcells_getR E _ _ ov d HD.out)
   go_simp
   refine hK _ _ ?_ (Below.refl _ _)
   simp only [lR]
   exact rfl
 refine FlowR.last ?_
 intro V3 hV
 simp only [Dep, lQ]
 rintro x27 ⟨V27, rfl, hb27⟩
 rintro x28 ⟨V28, rfl, hb28⟩
 rintro x29 ⟨V29, rfl, hb29⟩
 rintro x30 ⟨V30, rfl, hb30⟩
 rintro x31 ⟨V31, rfl, hb31⟩
 rintro x32 ⟨V32, rfl, hb32⟩
 rintro x33 ⟨V33, rfl, hb33⟩
 rintro x34 ⟨V34, rfl, hb34⟩
 rintro x35 ⟨V35, rfl, hb35⟩
 rintro x36 ⟨V36, rfl, hb36⟩
 rintro x37 ⟨V37, rfl, hb37⟩
 rintro x38 ⟨V38, rfl, hb38⟩
 rintro x39 ⟨V39, rfl, hb39⟩
 rintro x40 ⟨V40, rfl, hb40⟩
 intro K hK
 have hM3 := HM.out.next hV
 have cS := hM3.cell (19) _ rfl
 have zS := hM3.frz (19)
 go_simp
 refine hK _ _ ?_
 have HM4 := Lib.hid (hM3.setBank HX.out)
 have HK4 := Lib.hid (((Keeps.refl E.base W0).trans (Keeps.of_below hV)).trans (hM3.putK (19) (.int .i64 (m.R d % 64))))
 clear hM3 cS zS hV hK
 go_wp2_with fail
 exact ends (v := .tuple #[]) (by simp [results, Tryz.results39]) rfl (done_ok HR.out ⟨⟨_, _, HM4.out⟩, (Keeps.of_below HBel.out).trans HK4.out⟩)
set_option maxRecDepth 8000 in
set_option maxHeartbeats 4000000 in
theorem ports_outB {E : Env} {V : World} {m : Mach} {sv ov : Value} (h : MachAt E V m sv ov) (d : Nat) (si imm aux bank size : Int) (hd : d < 8) (hi : OkU16 imm) (ho : m.out.length < 1000000000000) (h0 : imm ≠ 0) : Calls Tryz.prog 39 #[.pointer (some ⟨E.B, 0, none⟩), .agg #[.int .i64 145, .int .i64 (d : Int), .int .i64 si, .int .u16 imm, .int .u16 aux, .int .i64 bank, .int .i64 size]] V (Done E V m sv ov (.ok (portsM E m 145 d imm))) := by
 obtain ⟨hI, HM, HBel, -⟩ := box26 h 145 d si imm aux bank size
 have HI := Lib.hid hI
 have H := Lib.hid h
 have HD := Lib.hid hd
 have HII := Lib.hid hi
 have HO := Lib.hid ho
 obtain ⟨k, hk0⟩ : ∃ k : Nat, max m.inputs 0 = (k : Int) := ⟨(max m.inputs 0).toNat, by omega⟩
 have mA : (if m.inputs < 0 then (0 : Int) else m.inputs) = (k : Int) := by split <;> omega
 have d0 : (0 : Int) ≤ (d : Int) := by omega
 have d1 : (d : Int) < 8 := by omega
 have e0 : (imm == 0) = false := by rw [beq_eq_false_iff_ne]; exact h0
 clear h hI hd hi ho
 go_enter Tryz.func39, Tryz.ntmps39
 go_upto_region 1 with (fail)
 generalize V.alloc _ = W0 at *
 have KC := kcK (base := E.base) HI.out
 clear HI
 obtain ⟨i0, i1, i2, i3, i4, i5, i6⟩ := KC.out W0 (Keeps.refl _ _)
 have c21 := HM.out.cell 21 _ rfl
 have HX : Hid (OkU16 (m.R d)) := Lib.hid (H.out.ok.R d)
 have HR : Hid ((.ok (portsM E m 145 d imm) : Except (Int × Int) Mach) = .ok ({ m with out := m.out ++ [(imm, m.R d)] })) := Lib.hid (by unfold portsM; rw [if_pos rfl, if_neg h0])
 have HI5 : Hid (∃ i, Tryz.prog.info? 51 = some i ∧ i.zero = some (.agg #[.int .u16 0, .int .u16 0]) ∧ i.size = 2 ∧ i.bytes = 4) := Lib.hid (by
  have := info54
  cases h : Tryz.prog.info? 51 with
  | none => rw [h] at this; cases this
  | some y => rw [h] at this; simp at this; exact ⟨y, rfl, this⟩)
 clear h0
 go_upto_region 6 with (fail)
 clear e0
 clear i0 i1 i2 i3 i4 i5 i6
 refine' wp_region_flowT [1, 2, 3, 4, 5, 6, 7, 8, 9, 10, 11, 12, 13, 14, 15, 16] [17, 20] [[], [], [(46, 1)], [(47, 2)], [(48, 3)], [], [(50, 5)], [], [], [(53, 8)], [(52, 7)], [(55, 10)], [(56, 11)], [(57, 12), (54, 9)], [(58, 13)], [(51, 6), (59, 14)], [(60, 15)], [(49, 4), (61, 16)], [(45, 0)], [(63, 18)], [(64, 19), (62, 17)]] [(45, 0), (46, 1), (47, 2), (48, 3), (49, 4), (50, 5), (51, 6), (52, 7), (53, 8), (54, 9), (55, 10), (56, 11), (57, 12), (58, 13), (59, 14), (60, 15), (61, 16), (63, 18), (64, 19)] (relL [eqV _, eqV _, eqV _, eqV _, eqV _, eqV _, eqV _, eqV _, eqV _, eqV _, eqV _, eqV _, eqV _, eqV _, eqV _, eqV _, NewE imm (m.R d), fun v V => True, eqV _, eqV _, fun v V => True]) [(17, _), (20, _)] (by kernel_rfl) (by kernel_rfl) rfl ?_ ?_
 rotate_left 18
 ·refine FlowT.val (by decide) _ (fun _ _ => Iff.rfl) ?_ ?_
  ·simp only [DepP, lQ]
   intro V K hK
   go_simp
   exact hK
  iterate 15
   refine FlowT.mem (by decide) ?_ ?_
   ·intro V3 hV
    simp only [Dep, lQ]
    repeat rintro _ ⟨_, rfl, _⟩
    intro K hK
    obtain ⟨i0, i1, i2, i3, i4, i5, i6⟩ := KC.out _ (Keeps.of_below hV)
    obtain cR := (HM.out.next hV).cell (7 + d) _ (mcells_getR E _ _ ov d HD.out)
    obtain c25 := (HM.out.next hV).cell 25 _ rfl
    go_simp
    refine hK _ _ ?_ (Below.refl _ _)
    simp only [lR]
    exact rfl
  refine FlowT.mem (by decide) ?_ ?_
  ·intro V3 hV
   simp only [Dep, lQ]
   rintro x60 ⟨V60, rfl, hb60⟩
   intro K hK
   go_simp
   exact hK _ _ ⟨V3, rfl, rfl⟩ (below1 _ _)
  refine FlowT.store (by decide) rfl ?_
  iterate 2
   refine FlowT.val (by decide) _ (fun _ _ => Iff.rfl) ?_ ?_
   ·simp only [DepP, lQ]
    repeat rintro _ ⟨_, rfl⟩
    intro V K hK
    go_simp
    exact hK
  refine FlowT.store (by decide) rfl ?_
  exact FlowT.nil
 ·intro V3 hV
  simp only [Dep, lQ]
  rintro x45 ⟨V45, rfl, hb45⟩
  rintro x46 ⟨V46, rfl, hb46⟩
  rintro x47 ⟨V47, rfl, hb47⟩
  rintro x48 ⟨V48, rfl, hb48⟩
  rintro x49 ⟨V49, rfl, hb49⟩
  rintro x50 ⟨V50, rfl, hb50⟩
  rintro x51 ⟨V51, rfl, hb51⟩
  rintro x52 ⟨V52, rfl, hb52⟩
  rintro x53 ⟨V53, rfl, hb53⟩
  rintro x54 ⟨V54, rfl, hb54⟩
  rintro x55 ⟨V55, rfl, hb55⟩
  rintro x56 ⟨V56, rfl, hb56⟩
  rintro x57 ⟨V57, rfl, hb57⟩
  rintro x58 ⟨V58, rfl, hb58⟩
  rintro x59 ⟨V59, rfl, hb59⟩
  rintro x60 ⟨V60, rfl, hb60⟩
  rintro x61 ⟨V61, ⟨W9, rfl, rfl⟩, hb61⟩
  rintro x63 ⟨V63, rfl, hb63⟩
  rintro x64 ⟨V64, rfl, hb64⟩
  have HV := Lib.hid hV
  have HM2 := Lib.hid (HM.out.next hV)
  clear hV
  intro K1 hK1
  obtain ⟨i9, hi9, hz9, hs9, hb9⟩ := HI5.out
  refine (if_pos (by rfl)).mpr ?_
  refine wp_append_lies _ _ _ _ rfl E.base 51 i9 (.agg #[.int .u16 0, .int .u16 0]) 2 4 Tryz.underlying34 hi9 hz9 hs9 hb9 rfl (by decide) _ _ _ rfl HM2.out.out ⟨W9.heap.size, 0, none⟩ 1 1 [.int .u16 imm, .int .u16 (m.R d)] rfl rfl (news_at hb61 _ rfl) (by simp [Value.oneCell']) (by decide) (by have := HO.out; unfold maxLen; omega) (by have := HO.out; omega) HM2.out.base _ rfl ?_
  intro g cap w3 hown hg _ _
  refine hK1 _ _ ?_
  simp only [lQ]
  clear hK1 K1 hi9 hz9 hs9 hb9
  obtain ⟨hm4, hk4, f25, k25⟩ := out_at (a := imm) (b := m.R d) HM2.out HII.out HX.out HO.out hown hg
  have HM4 := Lib.hid hm4
  have HK4 := Lib.hid hk4
  clear hm4 hk4 hown hg
  intro K1 hK1
  go_simp
  refine hK1 undef _ ?_
  clear hK1 K1 f25 k25
  unfold TailS
  go_wp2_with fail
  exact ends (v := .tuple #[]) (by simp [results, Tryz.results39]) rfl (done_ok HR.out ⟨⟨_, _, HM4.out⟩, ((Keeps.of_below HBel.out).trans (Keeps.of_below HV.out)).trans HK4.out⟩)
set_option maxRecDepth 8000 in
set_option maxHeartbeats 4000000 in
theorem ports_in0B {E : Env} {V : World} {m : Mach} {sv ov : Value} (h : MachAt E V m sv ov) (d : Nat) (si aux bank size : Int) (hd : d < 8) (hi : OkU16 0) (ho : m.out.length < 1000000000000) : Calls Tryz.prog 39 #[.pointer (some ⟨E.B, 0, none⟩), .agg #[.int .i64 144, .int .i64 (d : Int), .int .i64 si, .int .u16 0, .int .u16 aux, .int .i64 bank, .int .i64 size]] V (Done E V m sv ov (.ok (portsM E m 144 d 0))) := by
 obtain ⟨hI, HM, HBel, -⟩ := box26 h 144 d si 0 aux bank size
 have HI := Lib.hid hI
 have H := Lib.hid h
 have HD := Lib.hid hd
 have HII := Lib.hid hi
 have HO := Lib.hid ho
 obtain ⟨k, hk0⟩ : ∃ k : Nat, max m.inputs 0 = (k : Int) := ⟨(max m.inputs 0).toNat, by omega⟩
 have mA : (if m.inputs < 0 then (0 : Int) else m.inputs) = (k : Int) := by split <;> omega
 have d0 : (0 : Int) ≤ (d : Int) := by omega
 have d1 : (d : Int) < 8 := by omega
 clear h hI hd hi ho
 go_enter Tryz.func39, Tryz.ntmps39
 go_upto_region 1 with (fail)
 generalize V.alloc _ = W0 at *
 have KC := kcK (base := E.base) HI.out
 clear HI
 obtain ⟨i0, i1, i2, i3, i4, i5, i6⟩ := KC.out W0 (Keeps.refl _ _)
 have c21 := HM.out.cell 21 _ rfl
 have q1 : IntKind.u16.wrap m.bank = m.bank % 65536 := by rw [IntKind.wrap_u16]
 have HX : Hid (OkU16 (m.bank % 65536)) := Lib.hid (by unfold OkU16; omega)
 have HR : Hid ((.ok (portsM E m 144 d 0) : Except (Int × Int) Mach) = .ok (setD m d (m.bank % 65536))) := Lib.hid (by unfold portsM; rw [if_neg (by decide), if_pos rfl])
 go_upto_region 8 with (fail)
 clear i0 i1 i2 i3 i4 i5 i6
 refine' wp_region_flowR [[], [], [(70, 1)], [], [(72, 3)], [(73, 4)], [(74, 5)], [(75, 6)], [(76, 7)], [(69, 0)], [(78, 9)], [(79, 10)], [(80, 11), (71, 2)], [(69, 0), (70, 1), (71, 2), (72, 3), (73, 4), (74, 5), (75, 6), (76, 7), (77, 8), (78, 9), (79, 10), (80, 11), (81, 12)]] (relL [eqV _, eqV _, eqV _, eqV _, eqV _, eqV _, eqV _, eqV _, eqV _, eqV _, eqV _, eqV _, eqV _]) (by kernel_rfl) (by kernel_rfl) ?_
 rotate_left 13
 iterate 13
  refine FlowR.step ?_ ?_
  ·intro V3 hV
   simp only [Dep, lQ]
   repeat rintro _ ⟨_, rfl, _⟩
   intro K hK
   obtain ⟨i0, i1, i2, i3, i4, i5, i6⟩ := KC.out _ ((Keeps.refl E.base W0).trans (Keeps.of_below hV))
   obtain c19 := (HM.out.next hV).cell 19 _ rfl
   go_simp
   refine hK _ _ ?_ (Below.refl _ _)
   simp only [lR]
   exact rfl
 refine FlowR.last ?_
 intro V3 hV
 simp only [Dep, lQ]
 rintro x69 ⟨V69, rfl, hb69⟩
 rintro x70 ⟨V70, rfl, hb70⟩
 rintro x71 ⟨V71, rfl, hb71⟩
 rintro x72 ⟨V72, rfl, hb72⟩
 rintro x73 ⟨V73, rfl, hb73⟩
 rintro x74 ⟨V74, rfl, hb74⟩
 rintro x75 ⟨V75, rfl, hb75⟩
 rintro x76 ⟨V76, rfl, hb76⟩
 rintro x77 ⟨V77, rfl, hb77⟩
 rintro x78 ⟨V78, rfl, hb78⟩
 rintro x79 ⟨V79, rfl, hb79⟩
 rintro x80 ⟨V80, rfl, hb80⟩
 rintro x81 ⟨V81, rfl, hb81⟩
 intro K hK
 have hM3 := HM.out.next hV
 have cS := hM3.cell (7 + d) _ (mcells_getR E _ _ ov d HD.out)
 have zS := hM3.frz (7 + d)
 go_simp
 refine hK _ _ ?_
 have HM4 := Lib.hid (hM3.setReg d HD.out HX.out)
 have HK4 := Lib.hid (((Keeps.refl E.base W0).trans (Keeps.of_below hV)).trans (hM3.putK (7 + d) (.int .u16 (m.bank % 65536))))
 clear hM3 cS zS hV hK
 go_wp2_with fail
 exact ends (v := .tuple #[]) (by simp [results, Tryz.results39]) rfl (done_ok HR.out ⟨⟨_, _, HM4.out⟩, (Keeps.of_below HBel.out).trans HK4.out⟩)
set_option maxRecDepth 8000 in
set_option maxHeartbeats 4000000 in
theorem ports_inB {E : Env} {V : World} {m : Mach} {sv ov : Value} (h : MachAt E V m sv ov) (d : Nat) (si imm aux bank size : Int) (hd : d < 8) (hi : OkU16 imm) (ho : m.out.length < 1000000000000) (h0 : imm ≠ 0) (x : Int) (hx : E.tin[(max m.inputs 0).toNat]? = some x) : Calls Tryz.prog 39 #[.pointer (some ⟨E.B, 0, none⟩), .agg #[.int .i64 144, .int .i64 (d : Int), .int .i64 si, .int .u16 imm, .int .u16 aux, .int .i64 bank, .int .i64 size]] V (Done E V m sv ov (.ok (portsM E m 144 d imm))) := by
 obtain ⟨hI, HM, HBel, -⟩ := box26 h 144 d si imm aux bank size
 have HI := Lib.hid hI
 have H := Lib.hid h
 have HD := Lib.hid hd
 have HII := Lib.hid hi
 have HO := Lib.hid ho
 obtain ⟨k, hk0⟩ : ∃ k : Nat, max m.inputs 0 = (k : Int) := ⟨(max m.inputs 0).toNat, by omega⟩
 have mA : (if m.inputs < 0 then (0 : Int) else m.inputs) = (k : Int) := by split <;> omega
 have d0 : (0 : Int) ≤ (d : Int) := by omega
 have d1 : (d : Int) < 8 := by omega
 have e0 : (imm == 0) = false := by rw [beq_eq_false_iff_ne]; exact h0
 clear h hI hd hi ho
 go_enter Tryz.func39, Tryz.ntmps39
 go_upto_region 1 with (fail)
 generalize V.alloc _ = W0 at *
 have KC := kcK (base := E.base) HI.out
 clear HI
 obtain ⟨i0, i1, i2, i3, i4, i5, i6⟩ := KC.out W0 (Keeps.refl _ _)
 have c21 := HM.out.cell 21 _ rfl
 have HX : Hid (OkU16 x) := Lib.hid (HM.out.env.tinv x (List.mem_of_getElem? hx))
 have HLT : Hid ((max m.inputs 0).toNat < E.tin.length) := Lib.hid (List.getElem?_eq_some_iff.1 hx).1
 have HL := Lib.hid HM.out.env.tin
 have HXX := Lib.hid hx
 have HR : Hid ((.ok (portsM E m 144 d imm) : Except (Int × Int) Mach) = .ok ({ setD m d x with inputs := max m.inputs 0 + 1 })) := Lib.hid (by unfold portsM inM; rw [if_neg (by decide), if_neg h0, hx])
 have hm0 := hk0
 rw [hm0] at HXX HLT HR hx
 have hkx : E.tin[k]? = some x := hx
 have hkl : k < E.tin.length := (List.getElem?_eq_some_iff.1 hkx).1
 have HKX := Lib.hid hkx
 obtain ⟨TB, toff, hpin, htlt, htc⟩ := HM.out.inp k x hkx
 have HTC := Lib.hid htc
 have HTL := Lib.hid htlt
 have HC5 : Hid (∀ W, Below W0.heap.size W0 W → W.cell? ⟨E.B, 5, none⟩ = some (.slice (some ⟨TB, toff, none⟩) E.tin.length E.cin)) := Lib.hid fun W hW => by
  have h9 := (HM.out.next hW).cell 5 _ rfl
  rw [hpin] at h9
  exact h9
 have HTC0 : Hid (W0.cell? ⟨TB, toff + k, none⟩ = some (.int .u16 x)) := Lib.hid htc
 have k0 : (0 : Int) ≤ (k : Int) := by omega
 have k1 : (k : Int) < (E.tin.length : Int) := by omega
 have b1 : decide ((k : Int) < (E.tin.length : Int)) = true := decide_eq_true k1
 have q1 : IntKind.i64.wrap (((k : Int) + 1)) = ((k : Int) + 1) := IntWalk.i64_in _ (by have := HL.out; unfold maxLen at this; omega)
 have c5 := HC5.out W0 (Below.refl _ _)
 clear c21
 have c21 : W0.cell? ⟨E.B, 21, none⟩ = some (.int .i64 m.inputs) := by
  have h9 := HM.out.cell 21 _ rfl
  exact h9
 clear hx h0 hkx htc htlt hpin hkl hm0 hk0
 go_upto_region 10 with (fail)
 clear c5 c21 b1
 clear i0 i1 i2 i3 i4 i5 i6
 refine' wp_region_flowR [[], [], [(92, 1)], [], [(94, 3)], [(95, 4)], [(96, 5)], [(97, 6)], [], [(98, 7), (99, 8)], [(100, 9)], [(91, 0)], [(102, 11)], [(103, 12)], [(104, 13), (93, 2)], [(91, 0), (92, 1), (93, 2), (94, 3), (95, 4), (96, 5), (97, 6), (98, 7), (99, 8), (100, 9), (101, 10), (102, 11), (103, 12), (104, 13), (105, 14)]] (relL [eqV _, eqV _, eqV _, eqV _, eqV _, eqV _, eqV _, eqV _, eqV _, eqV _, eqV _, eqV _, eqV _, eqV _, eqV _]) (by kernel_rfl) (by kernel_rfl) ?_
 rotate_left 15
 iterate 15
  refine FlowR.step ?_ ?_
  ·intro V3 hV
   simp only [Dep, lQ]
   repeat rintro _ ⟨_, rfl, _⟩
   intro K hK
   obtain ⟨i0, i1, i2, i3, i4, i5, i6⟩ := KC.out _ ((Keeps.refl E.base W0).trans (Keeps.of_below hV))
   obtain c5 := HC5.out _ hV
   obtain cT := low_keeps (Keeps.of_below hV) HTL.out HTC.out
   go_simp
   refine hK _ _ ?_ (Below.refl _ _)
   simp only [lR]
   exact rfl
 refine FlowR.last ?_
 intro V3 hV
 simp only [Dep, lQ]
 rintro x91 ⟨V91, rfl, hb91⟩
 rintro x92 ⟨V92, rfl, hb92⟩
 rintro x93 ⟨V93, rfl, hb93⟩
 rintro x94 ⟨V94, rfl, hb94⟩
 rintro x95 ⟨V95, rfl, hb95⟩
 rintro x96 ⟨V96, rfl, hb96⟩
 rintro x97 ⟨V97, rfl, hb97⟩
 rintro x98 ⟨V98, rfl, hb98⟩
 rintro x99 ⟨V99, rfl, hb99⟩
 rintro x100 ⟨V100, rfl, hb100⟩
 rintro x101 ⟨V101, rfl, hb101⟩
 rintro x102 ⟨V102, rfl, hb102⟩
 rintro x103 ⟨V103, rfl, hb103⟩
 rintro x104 ⟨V104, rfl, hb104⟩
 rintro x105 ⟨V105, rfl, hb105⟩
 intro K hK
 have hM3 := HM.out.next hV
 have cS := hM3.cell (7 + d) _ (mcells_getR E _ _ ov d HD.out)
 have zS := hM3.frz (7 + d)
 go_simp
 refine hK _ _ ?_
 have HM4 := Lib.hid (hM3.setReg d HD.out HX.out)
 have HK4 := Lib.hid (((Keeps.refl E.base W0).trans (Keeps.of_below hV)).trans (hM3.putK (7 + d) (.int .u16 x)))
 clear hM3 cS zS hV hK
 have c21 := HM4.out.cell 21 _ rfl
 have z21 := HM4.out.frz 21
 generalize V3.setCell _ _ = W4 at *
 go_wp2_with fail
 exact ends (v := .tuple #[]) (by simp [results, Tryz.results39]) rfl (done_ok HR.out ⟨⟨_, _, HM4.out.setInp (x := ((k : Int) + 1)) (by unfold OkI64; have h1 := HL.out; have h2 := HLT.out; unfold maxLen at h1; omega)⟩, (Keeps.of_below HBel.out).trans (HK4.out.trans (HM4.out.putK 21 _))⟩)
set_option maxRecDepth 8000 in
set_option maxHeartbeats 4000000 in
theorem ports_innB {E : Env} {V : World} {m : Mach} {sv ov : Value} (h : MachAt E V m sv ov) (d : Nat) (si imm aux bank size : Int) (hd : d < 8) (hi : OkU16 imm) (ho : m.out.length < 1000000000000) (h0 : imm ≠ 0) (hx : E.tin[(max m.inputs 0).toNat]? = none) : Calls Tryz.prog 39 #[.pointer (some ⟨E.B, 0, none⟩), .agg #[.int .i64 144, .int .i64 (d : Int), .int .i64 si, .int .u16 imm, .int .u16 aux, .int .i64 bank, .int .i64 size]] V (Done E V m sv ov (.ok (portsM E m 144 d imm))) := by
 obtain ⟨hI, HM, HBel, -⟩ := box26 h 144 d si imm aux bank size
 have HI := Lib.hid hI
 have H := Lib.hid h
 have HD := Lib.hid hd
 have HII := Lib.hid hi
 have HO := Lib.hid ho
 obtain ⟨k, hk0⟩ : ∃ k : Nat, max m.inputs 0 = (k : Int) := ⟨(max m.inputs 0).toNat, by omega⟩
 have mA : (if m.inputs < 0 then (0 : Int) else m.inputs) = (k : Int) := by split <;> omega
 have d0 : (0 : Int) ≤ (d : Int) := by omega
 have d1 : (d : Int) < 8 := by omega
 have e0 : (imm == 0) = false := by rw [beq_eq_false_iff_ne]; exact h0
 clear h hI hd hi ho
 go_enter Tryz.func39, Tryz.ntmps39
 go_upto_region 1 with (fail)
 generalize V.alloc _ = W0 at *
 have KC := kcK (base := E.base) HI.out
 clear HI
 obtain ⟨i0, i1, i2, i3, i4, i5, i6⟩ := KC.out W0 (Keeps.refl _ _)
 have c21 := HM.out.cell 21 _ rfl
 have HX : Hid (OkU16 0) := Lib.hid (by unfold OkU16; omega)
 have HR : Hid ((.ok (portsM E m 144 d imm) : Except (Int × Int) Mach) = .ok (setD m d 0)) := Lib.hid (by unfold portsM inM; rw [if_neg (by decide), if_neg h0, hx])
 have b1 : decide ((k : Int) < (E.tin.length : Int)) = false := decide_eq_false (by have := List.getElem?_eq_none_iff.1 hx; omega)
 have b3 : decide (k < E.tin.length) = false := decide_eq_false (by have := List.getElem?_eq_none_iff.1 hx; omega)
 have c5 := HM.out.cell 5 _ rfl
 clear hx h0
 go_upto_region 2 with (fail)
 clear c5 c21 b1
 clear i0 i1 i2 i3 i4 i5 i6
 refine' wp_region_flowR [[], [], [(12, 1)], [(11, 0)], [(14, 3)], [(15, 4)], [(16, 5), (13, 2)], [(11, 0), (12, 1), (13, 2), (14, 3), (15, 4), (16, 5), (17, 6)]] (relL [eqV _, eqV _, eqV _, eqV _, eqV _, eqV _, eqV _]) (by kernel_rfl) (by kernel_rfl) ?_
 rotate_left 7
 iterate 7
  refine FlowR.step ?_ ?_
  ·intro V3 hV
   simp only [Dep, lQ]
   repeat rintro _ ⟨_, rfl, _⟩
   intro K hK
   obtain ⟨i0, i1, i2, i3, i4, i5, i6⟩ := KC.out _ ((Keeps.refl E.base W0).trans (Keeps.of_below hV))
   go_simp
   refine hK _ _ ?_ (Below.refl _ _)
   simp only [lR]
   exact rfl
 refine FlowR.last ?_
 intro V3 hV
 simp only [Dep, lQ]
 rintro x11 ⟨V11, rfl, hb11⟩
 rintro x12 ⟨V12, rfl, hb12⟩
 rintro x13 ⟨V13, rfl, hb13⟩
 rintro x14 ⟨V14, rfl, hb14⟩
 rintro x15 ⟨V15, rfl, hb15⟩
 rintro x16 ⟨V16, rfl, hb16⟩
 rintro x17 ⟨V17, rfl, hb17⟩
 intro K hK
 have hM3 := HM.out.next hV
 have cS := hM3.cell (7 + d) _ (mcells_getR E _ _ ov d HD.out)
 have zS := hM3.frz (7 + d)
 go_simp
 refine hK _ _ ?_
 have HM4 := Lib.hid (hM3.setReg d HD.out HX.out)
 have HK4 := Lib.hid (((Keeps.refl E.base W0).trans (Keeps.of_below hV)).trans (hM3.putK (7 + d) (.int .u16 0)))
 clear hM3 cS zS hV hK
 go_wp2_with fail
 exact ends (v := .tuple #[]) (by simp [results, Tryz.results39]) rfl (done_ok HR.out ⟨⟨_, _, HM4.out⟩, (Keeps.of_below HBel.out).trans HK4.out⟩)
theorem ports_any {E : Env} {V : World} {m : Mach} {sv ov : Value} (h : MachAt E V m sv ov) (op : Int) (d : Nat) (si imm aux bank size : Int) (hd : d < 8) (hi : OkU16 imm) (ho : m.out.length < 1000000000000) (hop : op = 144 ∨ op = 145) : Calls Tryz.prog 39 #[.pointer (some ⟨E.B, 0, none⟩), .agg #[.int .i64 op, .int .i64 (d : Int), .int .i64 si, .int .u16 imm, .int .u16 aux, .int .i64 bank, .int .i64 size]] V (Done E V m sv ov (.ok (portsM E m op d imm))) := by
 by_cases h0 : imm = 0
 ·subst h0
  rcases hop with rfl | rfl
  ·exact ports_in0B h d si aux bank size hd hi ho
  ·exact ports_out0B h d si aux bank size hd hi ho
 ·rcases hop with rfl | rfl
  ·cases hx : E.tin[(max m.inputs 0).toNat]? with
   | some x => exact ports_inB h d si imm aux bank size hd hi ho h0 x hx
   | none => exact ports_innB h d si imm aux bank size hd hi ho h0 hx
  ·exact ports_outB h d si imm aux bank size hd hi ho h0
end Go.Proofs.YtieaicdihingkaaGreat
