/- execute: one instruction. -/
import Derived.Test.YtieaicdihingkaaGreatK14
import Derived.Test.YtieaicdihingkaaGreatK15
import Derived.Test.YtieaicdihingkaaGreatK16
import Derived.Test.YtieaicdihingkaaGreatFlowU
namespace Go.Proofs.YtieaicdihingkaaGreat
set_option linter.unusedVariables false
set_option linter.unusedSimpArgs false
open Go.RowKit
theorem Done.pre {E : Env} {V W : World} {m : Mach} {sv ov : Value} {r : Except (Int × Int) Mach} {e : Ending} {w' : World} (h : MachAt E V m sv ov) (hb : Below V.heap.size V W) (t : Done E W m sv ov r e w') : Done E V m sv ov r e w' := by
 unfold Done at *
 cases r with
 | ok m' => exact ⟨t.1, t.2.pre hb⟩
 | error x => exact ⟨t.1, t.2.pre h hb⟩
theorem xor_ones (n : Nat) (h : n < 65536) : 65535 ^^^ n = 65535 - n := by
 have h1 : (65535 ^^^ n) = (BitVec.allOnes 16 ^^^ BitVec.ofNat 16 n).toNat := by
  rw [BitVec.toNat_xor, BitVec.toNat_allOnes, BitVec.toNat_ofNat, Nat.mod_eq_of_lt h]
 rw [h1, BitVec.allOnes_xor, BitVec.toNat_not, BitVec.toNat_ofNat, Nat.mod_eq_of_lt h]
theorem not_u16 (r : Int) (h0 : 0 ≤ r) (h1 : r < 65536) : bits BinOp.xor IntKind.u16 (if IntKind.u16.signed = true then -1 else IntKind.u16.max) r = 65535 - r := by
 show bits BinOp.xor IntKind.u16 65535 r = _
 rw [u16_xor 65535 r (by decide) (by decide) h0 h1]
 have := xor_ones r.toNat (by omega)
 show ((65535 ^^^ r.toNat : Nat) : Int) = _
 rw [this]
 omega
def negM (m : Mach) (d : Nat) : Mach := { setD m d (subR 0 (m.R d) true) with f := subF 0 (m.R d) true }
def notM (m : Mach) (d : Nat) : Mach := { setD m d (65535 - m.R d) with f := withI m.f (65535 - m.R d) }
set_option maxRecDepth 8000 in
set_option maxHeartbeats 4000000 in
theorem exec_nop {E : Env} {V : World} {m : Mach} {sv ov : Value} (h : MachAt E V m sv ov) (d s : Nat) (imm aux bank size : Int) (hd : d < 8) (hs : s < 8) (hi : OkU16 imm) (ha : OkU16 aux) (hb : 0 ≤ bank ∧ bank < 256) (ho : m.out.length < 1000000000000) : Calls Tryz.prog 25 #[.pointer (some ⟨E.B, 0, none⟩), .agg #[.int .i64 0, .int .i64 (d : Int), .int .i64 (s : Int), .int .u16 imm, .int .u16 aux, .int .i64 bank, .int .i64 size]] V (Done E V m sv ov (.ok m)) := by
 obtain ⟨hI, HM, HBel, -⟩ := box26 h 0 d s imm aux bank size
 have HI := Lib.hid hI
 have H := Lib.hid h
 have HD := Lib.hid hd
 have HS := Lib.hid hs
 have HII := Lib.hid hi
 have HAX := Lib.hid ha
 have HBK := Lib.hid hb
 have HO : Hid (m.out.length < 1000000000000) := Lib.hid ho
 have d0 : (0 : Int) ≤ (d : Int) := by omega
 have d1 : (d : Int) < 8 := by omega
 have s0 : (0 : Int) ≤ (s : Int) := by omega
 have s1 : (s : Int) < 8 := by omega
 clear h hI hd hs hi ha hb ho
 go_enter Tryz.func25, Tryz.ntmps25
 go_upto_region 1 with (fail)
 generalize V.alloc _ = W0 at *
 have KC := kcK (base := E.base) HI.out
 clear HI
 obtain ⟨i0, i1, i2, i3, i4, i5, i6⟩ := KC.out W0 (Keeps.refl _ _)
 go_wp2_with fail
 exact ends (v := .tuple #[]) (by simp [results, Tryz.results25]) rfl (done_ok rfl ⟨⟨_, _, HM.out⟩, Keeps.of_below HBel.out⟩)
set_option maxRecDepth 8000 in
set_option maxHeartbeats 4000000 in
theorem exec_hlt {E : Env} {V : World} {m : Mach} {sv ov : Value} (h : MachAt E V m sv ov) (d s : Nat) (imm aux bank size : Int) (hd : d < 8) (hs : s < 8) (hi : OkU16 imm) (ha : OkU16 aux) (hb : 0 ≤ bank ∧ bank < 256) (ho : m.out.length < 1000000000000) : Calls Tryz.prog 25 #[.pointer (some ⟨E.B, 0, none⟩), .agg #[.int .i64 2, .int .i64 (d : Int), .int .i64 (s : Int), .int .u16 imm, .int .u16 aux, .int .i64 bank, .int .i64 size]] V (Done E V m sv ov (.error (1, 0))) := by
 obtain ⟨hI, HM, HBel, -⟩ := box26 h 2 d s imm aux bank size
 have HI := Lib.hid hI
 have H := Lib.hid h
 have HD := Lib.hid hd
 have HS := Lib.hid hs
 have HII := Lib.hid hi
 have HAX := Lib.hid ha
 have HBK := Lib.hid hb
 have HO : Hid (m.out.length < 1000000000000) := Lib.hid ho
 have d0 : (0 : Int) ≤ (d : Int) := by omega
 have d1 : (d : Int) < 8 := by omega
 have s0 : (0 : Int) ≤ (s : Int) := by omega
 have s1 : (s : Int) < 8 := by omega
 clear h hI hd hs hi ha hb ho
 go_enter Tryz.func25, Tryz.ntmps25
 go_upto_region 1 with (fail)
 generalize V.alloc _ = W0 at *
 have KC := kcK (base := E.base) HI.out
 clear HI
 obtain ⟨i0, i1, i2, i3, i4, i5, i6⟩ := KC.out W0 (Keeps.refl _ _)
 go_wp2_with (go_at_call 34; refine (raise_any _ _ _).mono ?_; rintro e w' ⟨rfl, rfl⟩)
 exact panics rfl (done_err rfl (trapped_below H.out HBel.out))
set_option maxRecDepth 8000 in
set_option maxHeartbeats 4000000 in
theorem exec_poll {E : Env} {V : World} {m : Mach} {sv ov : Value} (h : MachAt E V m sv ov) (d s : Nat) (imm aux bank size : Int) (hd : d < 8) (hs : s < 8) (hi : OkU16 imm) (ha : OkU16 aux) (hb : 0 ≤ bank ∧ bank < 256) (ho : m.out.length < 1000000000000) : Calls Tryz.prog 25 #[.pointer (some ⟨E.B, 0, none⟩), .agg #[.int .i64 4, .int .i64 (d : Int), .int .i64 (s : Int), .int .u16 imm, .int .u16 aux, .int .i64 bank, .int .i64 size]] V (Done E V m sv ov (pollM E m)) := by
 obtain ⟨hI, HM, HBel, -⟩ := box26 h 4 d s imm aux bank size
 have HI := Lib.hid hI
 have H := Lib.hid h
 have HD := Lib.hid hd
 have HS := Lib.hid hs
 have HII := Lib.hid hi
 have HAX := Lib.hid ha
 have HBK := Lib.hid hb
 have HO : Hid (m.out.length < 1000000000000) := Lib.hid ho
 have d0 : (0 : Int) ≤ (d : Int) := by omega
 have d1 : (d : Int) < 8 := by omega
 have s0 : (0 : Int) ≤ (s : Int) := by omega
 have s1 : (s : Int) < 8 := by omega
 clear h hI hd hs hi ha hb ho
 go_enter Tryz.func25, Tryz.ntmps25
 go_upto_region 1 with (fail)
 generalize V.alloc _ = W0 at *
 have KC := kcK (base := E.base) HI.out
 clear HI
 obtain ⟨i0, i1, i2, i3, i4, i5, i6⟩ := KC.out W0 (Keeps.refl _ _)
 go_wp2_with fail
 clear i0 i1 i2 i3 i4 i5 i6
 refine (poll_any HM.out).mono ?_
 intro e w9 hdone
 generalize pollM E m = r at *
 rcases r with x | m'
 ·obtain ⟨rfl, htt⟩ := hdone
  exact panics rfl (Done.pre H.out HBel.out (done_err rfl htt))
 ·obtain ⟨rfl, hdd⟩ := hdone
  have HDD := Lib.hid hdd
  clear hdd
  go_wp2_with fail
  exact ends (v := .tuple #[]) (by simp [results, Tryz.results25]) rfl (Done.pre H.out HBel.out (done_ok rfl HDD.out))
set_option maxRecDepth 8000 in
set_option maxHeartbeats 4000000 in
theorem exec_ports {E : Env} {V : World} {m : Mach} {sv ov : Value} (h : MachAt E V m sv ov) (op : Int) (d s : Nat) (imm aux bank size : Int) (hd : d < 8) (hs : s < 8) (hi : OkU16 imm) (ha : OkU16 aux) (hb : 0 ≤ bank ∧ bank < 256) (ho : m.out.length < 1000000000000) (hop : op = 144 ∨ op = 145) : Calls Tryz.prog 25 #[.pointer (some ⟨E.B, 0, none⟩), .agg #[.int .i64 op, .int .i64 (d : Int), .int .i64 (s : Int), .int .u16 imm, .int .u16 aux, .int .i64 bank, .int .i64 size]] V (Done E V m sv ov (.ok (portsM E m op d imm))) := by
 obtain ⟨hI, HM, HBel, -⟩ := box26 h op d s imm aux bank size
 have HI := Lib.hid hI
 have H := Lib.hid h
 have HD := Lib.hid hd
 have HS := Lib.hid hs
 have HII := Lib.hid hi
 have HAX := Lib.hid ha
 have HBK := Lib.hid hb
 have HO : Hid (m.out.length < 1000000000000) := Lib.hid ho
 have d0 : (0 : Int) ≤ (d : Int) := by omega
 have d1 : (d : Int) < 8 := by omega
 have s0 : (0 : Int) ≤ (s : Int) := by omega
 have s1 : (s : Int) < 8 := by omega
 have n0 : (op == 0) = false := by rw [beq_eq_false_iff_ne]; omega
 have n2 : (op == 2) = false := by rw [beq_eq_false_iff_ne]; omega
 have n4 : (op == 4) = false := by rw [beq_eq_false_iff_ne]; omega
 have HOP := Lib.hid hop
 clear hop
 clear h hI hd hs hi ha hb ho
 go_enter Tryz.func25, Tryz.ntmps25
 go_upto_region 1 with (fail)
 generalize V.alloc _ = W0 at *
 have KC := kcK (base := E.base) HI.out
 clear HI
 obtain ⟨i0, i1, i2, i3, i4, i5, i6⟩ := KC.out W0 (Keeps.refl _ _)
 rcases HOP.out with rfl | rfl
 all_goals
  go_wp2_with fail
  clear i0 i1 i2 i3 i4 i5 i6
  refine (ports_any HM.out _ d (s : Int) imm aux bank size HD.out HII.out HO.out (by first | exact .inl rfl | exact .inr rfl)).mono ?_
  rintro e w9 ⟨rfl, hdd⟩
  have HDD := Lib.hid hdd
  clear hdd
  go_wp2_with fail
  exact ends (v := .tuple #[]) (by simp [results, Tryz.results25]) rfl (Done.pre H.out HBel.out (done_ok rfl HDD.out))
set_option maxRecDepth 8000 in
set_option maxHeartbeats 4000000 in
theorem exec_neg {E : Env} {V : World} {m : Mach} {sv ov : Value} (h : MachAt E V m sv ov) (d s : Nat) (imm aux bank size : Int) (hd : d < 8) (hs : s < 8) (hi : OkU16 imm) (ha : OkU16 aux) (hb : 0 ≤ bank ∧ bank < 256) (ho : m.out.length < 1000000000000) : Calls Tryz.prog 25 #[.pointer (some ⟨E.B, 0, none⟩), .agg #[.int .i64 18, .int .i64 (d : Int), .int .i64 (s : Int), .int .u16 imm, .int .u16 aux, .int .i64 bank, .int .i64 size]] V (Done E V m sv ov (.ok (negM m d))) := by
 obtain ⟨hI, HM, HBel, -⟩ := box26 h 18 d s imm aux bank size
 have HI := Lib.hid hI
 have H := Lib.hid h
 have HD := Lib.hid hd
 have HS := Lib.hid hs
 have HII := Lib.hid hi
 have HAX := Lib.hid ha
 have HBK := Lib.hid hb
 have HO : Hid (m.out.length < 1000000000000) := Lib.hid ho
 have d0 : (0 : Int) ≤ (d : Int) := by omega
 have d1 : (d : Int) < 8 := by omega
 have s0 : (0 : Int) ≤ (s : Int) := by omega
 have s1 : (s : Int) < 8 := by omega
 clear h hI hd hs hi ha hb ho
 go_enter Tryz.func25, Tryz.ntmps25
 go_upto_region 1 with (fail)
 generalize V.alloc _ = W0 at *
 have KC := kcK (base := E.base) HI.out
 clear HI
 obtain ⟨i0, i1, i2, i3, i4, i5, i6⟩ := KC.out W0 (Keeps.refl _ _)
 have HX : Hid (OkU16 (subR 0 (m.R d) true)) := Lib.hid (addR_ok _ _ _)
 have HY : Hid (OkU16 (subF 0 (m.R d) true)) := Lib.hid (addF_ok _ _ _)
 have HR : Hid ((.ok (negM m d) : Except (Int × Int) Mach) = .ok ({ setD m d (subR 0 (m.R d) true) with f := subF 0 (m.R d) true })) := Lib.hid rfl
 have HC : Hid (∀ W, Calls Tryz.prog 40 #[.int .u16 0, .int .u16 (m.R d), .bool true] W fun e w' => e = .returned (.tuple #[.int .u16 (subR 0 (m.R d) true), .int .u16 (subF 0 (m.R d) true)]) ∧ W = w') := Lib.hid fun W => sub_any 0 (m.R d) true W (by decide) (by decide) (H.out.ok.R d).1 (H.out.ok.R d).2
 generalize subR 0 (m.R d) true = r at *
 generalize subF 0 (m.R d) true = ff at *
 go_upto_region 12 with (fail)
 clear i0 i1 i2 i3 i4 i5 i6
 refine' wp_region_flowT [1, 2, 4, 5, 6, 7, 8, 9, 10, 11, 12] [20, 24] [[], [], [(47, 1)], [], [], [], [(51, 5)], [(50, 4)], [(53, 7)], [(54, 8)], [(55, 9), (52, 6)], [(56, 10)], [(57, 11)], [(58, 12)], [(45, 13)], [(45, 13)], [(46, 0)], [(61, 16)], [(62, 17)], [(63, 18), (48, 2)], [(64, 19), (59, 14)], [(49, 3)], [(65, 21)], [(66, 22)], [(67, 23), (60, 15)]] [(46, 0), (47, 1), (48, 2), (49, 3), (50, 4), (51, 5), (52, 6), (53, 7), (54, 8), (55, 9), (56, 10), (57, 11), (58, 12), (45, 13), (59, 14), (60, 15), (61, 16), (62, 17), (63, 18), (64, 19), (65, 21), (66, 22), (67, 23)] (relL [eqV _, eqV _, eqV _, eqV _, eqV _, eqV _, eqV _, eqV _, eqV _, eqV _, eqV _, eqV _, eqV _, eqV _, eqV _, eqV _, eqV _, eqV _, eqV _, eqV _, fun v V => True, eqV _, eqV _, eqV _, fun v V => True]) [(20, _), (24, _)] (by kernel_rfl) (by kernel_rfl) rfl ?_ ?_
 rotate_left 23
 ·refine FlowT.val (by decide) _ (fun _ _ => Iff.rfl) ?_ ?_
  ·simp only [DepP, lQ]
   intro V K hK
   go_simp
   exact hK
  iterate 2
   refine FlowT.mem (by decide) ?_ ?_
   ·intro V3 hV
    simp only [Dep, lQ]
    repeat rintro _ ⟨_, rfl, _⟩
    intro K hK
    obtain ⟨i0, i1, i2, i3, i4, i5, i6⟩ := KC.out _ (Keeps.of_below hV)
    obtain cR := (HM.out.next hV).cell (7 + d) _ (mcells_getR E _ _ ov d HD.out)
    go_simp
    refine hK _ _ ?_ (Below.refl _ _)
    simp only [lR]
    exact rfl
  refine FlowT.val (by decide) _ (fun _ _ => Iff.rfl) ?_ ?_
  ·simp only [DepP, lQ]
   intro V K hK
   go_simp
   exact hK
  iterate 8
   refine FlowT.mem (by decide) ?_ ?_
   ·intro V3 hV
    simp only [Dep, lQ]
    repeat rintro _ ⟨_, rfl, _⟩
    intro K hK
    obtain ⟨i0, i1, i2, i3, i4, i5, i6⟩ := KC.out _ (Keeps.of_below hV)
    obtain cR := (HM.out.next hV).cell (7 + d) _ (mcells_getR E _ _ ov d HD.out)
    go_simp
    refine hK _ _ ?_ (Below.refl _ _)
    simp only [lR]
    exact rfl
  refine FlowT.mem (by decide) ?_ ?_
  ·intro V3 hV
   simp only [Dep, lQ]
   rintro x57 ⟨V57, rfl, hb57⟩
   intro K hK
   go_simp
   go_at_call 40
   refine (HC.out _).mono ?_
   rintro e w9 ⟨rfl, rfl⟩
   refine hK _ _ ?_ (Below.refl _ _)
   simp only [lR]
   exact rfl
  iterate 7
   refine FlowT.val (by decide) _ (fun _ _ => Iff.rfl) ?_ ?_
   ·simp only [DepP, lQ]
    repeat rintro _ ⟨_, rfl⟩
    intro V K hK
    go_simp
    exact hK
  refine FlowT.store (by decide) rfl ?_
  iterate 3
   refine FlowT.val (by decide) _ (fun _ _ => Iff.rfl) ?_ ?_
   ·simp only [DepP, lQ]
    repeat rintro _ ⟨_, rfl⟩
    intro V K hK
    go_simp
    exact hK
  refine FlowT.store (by decide) rfl ?_
  exact FlowT.nil
 ·intro V3 hV
  simp only [Dep, lQ]
  rintro x46 ⟨V46, rfl, hb46⟩
  rintro x47 ⟨V47, rfl, hb47⟩
  rintro x48 ⟨V48, rfl, hb48⟩
  rintro x49 ⟨V49, rfl, hb49⟩
  rintro x50 ⟨V50, rfl, hb50⟩
  rintro x51 ⟨V51, rfl, hb51⟩
  rintro x52 ⟨V52, rfl, hb52⟩
  rintro x53 ⟨V53, rfl, hb53⟩
  rintro x54 ⟨V54, rfl, hb54⟩
  rintro x55 ⟨V55, rfl, hb55⟩
  rintro x56 ⟨V56, rfl, hb56⟩
  rintro x57 ⟨V57, rfl, hb57⟩
  rintro x58 ⟨V58, rfl, hb58⟩
  rintro x45 ⟨V45, rfl, hb45⟩
  rintro x59 ⟨V59, rfl, hb59⟩
  rintro x60 ⟨V60, rfl, hb60⟩
  rintro x61 ⟨V61, rfl, hb61⟩
  rintro x62 ⟨V62, rfl, hb62⟩
  rintro x63 ⟨V63, rfl, hb63⟩
  rintro x64 ⟨V64, rfl, hb64⟩
  rintro x65 ⟨V65, rfl, hb65⟩
  rintro x66 ⟨V66, rfl, hb66⟩
  rintro x67 ⟨V67, rfl, hb67⟩
  have HK0 := Lib.hid (Keeps.of_below (base := E.base) hV)
  have HM2 := Lib.hid (HM.out.next hV)
  clear hV
  have cR := HM2.out.cell (7 + d) _ (mcells_getR E _ _ ov d HD.out)
  have zR := HM2.out.frz (7 + d)
  intro K1 hK1
  go_simp
  refine hK1 undef _ ?_
  clear hK1 K1 cR zR
  simp only [Act.put]
  have HM3 := Lib.hid (HM2.out.setReg d HD.out HX.out)
  have c18 := HM3.out.cell 18 _ rfl
  have z18 := HM3.out.frz 18
  intro K1 hK1
  go_simp
  refine hK1 undef _ ?_
  clear hK1 K1 c18 z18
  simp only [Act.put]
  unfold TailS
  go_wp2_with fail
  exact ends (v := .tuple #[]) (by simp [results, Tryz.results25]) rfl (done_ok HR.out ⟨⟨_, _, HM3.out.setF HY.out⟩, (((Keeps.of_below HBel.out).trans HK0.out).trans (HM2.out.putK (7 + d) _)).trans (HM3.out.putK 18 _)⟩)
set_option maxRecDepth 8000 in
set_option maxHeartbeats 4000000 in
theorem exec_not {E : Env} {V : World} {m : Mach} {sv ov : Value} (h : MachAt E V m sv ov) (d s : Nat) (imm aux bank size : Int) (hd : d < 8) (hs : s < 8) (hi : OkU16 imm) (ha : OkU16 aux) (hb : 0 ≤ bank ∧ bank < 256) (ho : m.out.length < 1000000000000) : Calls Tryz.prog 25 #[.pointer (some ⟨E.B, 0, none⟩), .agg #[.int .i64 19, .int .i64 (d : Int), .int .i64 (s : Int), .int .u16 imm, .int .u16 aux, .int .i64 bank, .int .i64 size]] V (Done E V m sv ov (.ok (notM m d))) := by
 obtain ⟨hI, HM, HBel, -⟩ := box26 h 19 d s imm aux bank size
 have HI := Lib.hid hI
 have H := Lib.hid h
 have HD := Lib.hid hd
 have HS := Lib.hid hs
 have HII := Lib.hid hi
 have HAX := Lib.hid ha
 have HBK := Lib.hid hb
 have HO : Hid (m.out.length < 1000000000000) := Lib.hid ho
 have d0 : (0 : Int) ≤ (d : Int) := by omega
 have d1 : (d : Int) < 8 := by omega
 have s0 : (0 : Int) ≤ (s : Int) := by omega
 have s1 : (s : Int) < 8 := by omega
 clear h hI hd hs hi ha hb ho
 go_enter Tryz.func25, Tryz.ntmps25
 go_upto_region 1 with (fail)
 generalize V.alloc _ = W0 at *
 have KC := kcK (base := E.base) HI.out
 clear HI
 obtain ⟨i0, i1, i2, i3, i4, i5, i6⟩ := KC.out W0 (Keeps.refl _ _)
 have hRb := H.out.ok.R d
 unfold OkU16 at hRb
 have HX : Hid (OkU16 (65535 - m.R d)) := Lib.hid (by unfold OkU16; omega)
 have q1 := not_u16 (m.R d) hRb.1 hRb.2
 clear hRb
 go_upto_region 14 with (fail)
 clear i0 i1 i2 i3 i4 i5 i6
 refine' wp_region_flowR [[], [], [(72, 1)], [], [], [(75, 4)], [(74, 3)], [(77, 6)], [(78, 7)], [(79, 8), (76, 5)], [(80, 9)], [(81, 10)], [(71, 0)], [(83, 12)], [(84, 13)], [(85, 14), (73, 2)], [(71, 0), (72, 1), (73, 2), (74, 3), (75, 4), (76, 5), (77, 6), (78, 7), (79, 8), (80, 9), (81, 10), (82, 11), (83, 12), (84, 13), (85, 14), (86, 15)]] (relL [eqV _, eqV _, eqV _, eqV _, eqV _, eqV _, eqV _, eqV _, eqV _, eqV _, eqV _, eqV _, eqV _, eqV _, eqV _, eqV _]) (by kernel_rfl) (by kernel_rfl) ?_
 rotate_left 16
 iterate 16
  refine FlowR.step ?_ ?_
  ·intro V3 hV
   simp only [Dep, lQ]
   repeat rintro _ ⟨_, rfl, _⟩
   intro K hK
   obtain ⟨i0, i1, i2, i3, i4, i5, i6⟩ := KC.out _ (Keeps.of_below hV)
   obtain cR := (HM.out.next hV).cell (7 + d) _ (mcells_getR E _ _ ov d HD.out)
   go_simp
   refine hK _ _ ?_ (Below.refl _ _)
   simp only [lR]
   exact rfl
 refine FlowR.last ?_
 intro V3 hV
 simp only [Dep, lQ]
 rintro x71 ⟨V71, rfl, hb71⟩
 rintro x72 ⟨V72, rfl, hb72⟩
 rintro x73 ⟨V73, rfl, hb73⟩
 rintro x74 ⟨V74, rfl, hb74⟩
 rintro x75 ⟨V75, rfl, hb75⟩
 rintro x76 ⟨V76, rfl, hb76⟩
 rintro x77 ⟨V77, rfl, hb77⟩
 rintro x78 ⟨V78, rfl, hb78⟩
 rintro x79 ⟨V79, rfl, hb79⟩
 rintro x80 ⟨V80, rfl, hb80⟩
 rintro x81 ⟨V81, rfl, hb81⟩
 rintro x82 ⟨V82, rfl, hb82⟩
 rintro x83 ⟨V83, rfl, hb83⟩
 rintro x84 ⟨V84, rfl, hb84⟩
 rintro x85 ⟨V85, rfl, hb85⟩
 rintro x86 ⟨V86, rfl, hb86⟩
 intro K hK
 have hM3 := HM.out.next hV
 have cS := hM3.cell (7 + d) _ (mcells_getR E _ _ ov d HD.out)
 have zS := hM3.frz (7 + d)
 go_simp
 refine hK _ _ ?_
 have HM4 : Hid (MachAt E (V3.setCell ⟨E.B, 7 + d, none⟩ (.int .u16 (65535 - m.R d))) (setD m d (65535 - m.R d)) sv ov) := Lib.hid (hM3.setReg d HD.out HX.out)
 have HK4 := Lib.hid ((Keeps.of_below hV).trans (hM3.putK (7 + d) (.int .u16 (65535 - m.R d))))
 clear hM3 cS zS hV hK
 generalize V3.setCell _ _ = W4 at *
 have hget : (setD m d (65535 - m.R d)).R d = 65535 - m.R d := by unfold setD setR; exact if_pos rfl
 have HRD : Hid (∀ W, Below W4.heap.size W4 W → W.cell? ⟨E.B, 7 + d, none⟩ = some (.int .u16 (65535 - m.R d))) := Lib.hid fun W hW => hget ▸ (HM4.out.next hW).cell (7 + d) _ (mcells_getR E _ _ ov d HD.out)
 have HC : Hid (∀ W, Calls Tryz.prog 41 #[.int .u16 m.f, .int .u16 (65535 - m.R d)] W fun e w' => e = .returned (.int .u16 (withI m.f (65535 - m.R d))) ∧ W = w') := Lib.hid fun W => with_any m.f (65535 - m.R d) W H.out.ok.f.1 H.out.ok.f.2 HX.out.1 HX.out.2
 clear hget q1
 go_upto_region 15 with (fail)
 refine' wp_region_flowR [[], [], [(88, 1)], [(89, 2)], [(90, 3)], [(91, 4)], [], [], [(94, 7)], [(93, 6)], [(96, 9)], [(97, 10)], [(98, 11), (95, 8)], [(99, 12)], [(92, 5), (100, 13)], [(87, 0)], [(102, 15)], [(103, 16)], [(87, 0), (88, 1), (89, 2), (90, 3), (91, 4), (92, 5), (93, 6), (94, 7), (95, 8), (96, 9), (97, 10), (98, 11), (99, 12), (100, 13), (101, 14), (102, 15), (103, 16), (104, 17)]] (relL [eqV _, eqV _, eqV _, eqV _, eqV _, eqV _, eqV _, eqV _, eqV _, eqV _, eqV _, eqV _, eqV _, eqV _, eqV _, eqV _, eqV _, eqV _]) (by kernel_rfl) (by kernel_rfl) ?_
 rotate_left 18
 iterate 14
  refine FlowR.step ?_ ?_
  ·intro V4 hV
   simp only [Dep, lQ]
   repeat rintro _ ⟨_, rfl, _⟩
   intro K hK
   obtain ⟨i0, i1, i2, i3, i4, i5, i6⟩ := KC.out _ (HK4.out.trans (Keeps.of_below hV))
   obtain cR := HRD.out _ hV
   obtain c18 := (HM4.out.next hV).cell 18 _ rfl
   go_simp
   refine hK _ _ ?_ (Below.refl _ _)
   simp only [lR]
   exact rfl
 refine FlowR.step ?_ ?_
 ·intro V4 hV
  simp only [Dep, lQ]
  rintro x92 ⟨V92, rfl, hb92⟩
  rintro x100 ⟨V100, rfl, hb100⟩
  intro K hK
  go_simp
  go_at_call 41
  refine (HC.out _).mono ?_
  rintro e w9 ⟨rfl, rfl⟩
  refine hK _ _ ?_ (Below.refl _ _)
  simp only [lR]
  exact rfl
 iterate 3
  refine FlowR.step ?_ ?_
  ·intro V4 hV
   simp only [Dep, lQ]
   repeat rintro _ ⟨_, rfl, _⟩
   intro K hK
   go_simp
   refine hK _ _ ?_ (Below.refl _ _)
   simp only [lR]
   exact rfl
 refine FlowR.last ?_
 intro V4 hV
 simp only [Dep, lQ]
 rintro x87 ⟨V87, rfl, hb87⟩
 rintro x88 ⟨V88, rfl, hb88⟩
 rintro x89 ⟨V89, rfl, hb89⟩
 rintro x90 ⟨V90, rfl, hb90⟩
 rintro x91 ⟨V91, rfl, hb91⟩
 rintro x92 ⟨V92, rfl, hb92⟩
 rintro x93 ⟨V93, rfl, hb93⟩
 rintro x94 ⟨V94, rfl, hb94⟩
 rintro x95 ⟨V95, rfl, hb95⟩
 rintro x96 ⟨V96, rfl, hb96⟩
 rintro x97 ⟨V97, rfl, hb97⟩
 rintro x98 ⟨V98, rfl, hb98⟩
 rintro x99 ⟨V99, rfl, hb99⟩
 rintro x100 ⟨V100, rfl, hb100⟩
 rintro x101 ⟨V101, rfl, hb101⟩
 rintro x102 ⟨V102, rfl, hb102⟩
 rintro x103 ⟨V103, rfl, hb103⟩
 rintro x104 ⟨V104, rfl, hb104⟩
 intro K hK
 have hM3 := HM4.out.next hV
 have cS := hM3.cell 18 _ rfl
 have zS := hM3.frz 18
 go_simp
 refine hK _ _ ?_
 have HM5 := Lib.hid (hM3.setF (withI_ok m.f (65535 - m.R d)))
 have HK5 := Lib.hid ((HK4.out.trans (Keeps.of_below hV)).trans (hM3.putK 18 (.int .u16 (withI m.f (65535 - m.R d)))))
 clear hM3 cS zS hV hK
 go_wp2_with fail
 exact ends (v := .tuple #[]) (by simp [results, Tryz.results25]) rfl (done_ok rfl ⟨⟨_, _, HM5.out⟩, (Keeps.of_below HBel.out).trans HK5.out⟩)
set_option maxRecDepth 8000 in
set_option maxHeartbeats 4000000 in
theorem exec_ar {E : Env} {V : World} {m : Mach} {sv ov : Value} (h : MachAt E V m sv ov) (op : Int) (d s : Nat) (imm aux bank size : Int) (hd : d < 8) (hs : s < 8) (hi : OkU16 imm) (ha : OkU16 aux) (hb : 0 ≤ bank ∧ bank < 256) (ho : m.out.length < 1000000000000) (h1 : 32 ≤ op) (h2 : op ≤ 46) : Calls Tryz.prog 25 #[.pointer (some ⟨E.B, 0, none⟩), .agg #[.int .i64 op, .int .i64 (d : Int), .int .i64 (s : Int), .int .u16 imm, .int .u16 aux, .int .i64 bank, .int .i64 size]] V (Done E V m sv ov (arithM m op d (m.R s))) := by
 obtain ⟨hI, HM, HBel, -⟩ := box26 h op d s imm aux bank size
 have HI := Lib.hid hI
 have H := Lib.hid h
 have HD := Lib.hid hd
 have HS := Lib.hid hs
 have HII := Lib.hid hi
 have HAX := Lib.hid ha
 have HBK := Lib.hid hb
 have HO : Hid (m.out.length < 1000000000000) := Lib.hid ho
 have d0 : (0 : Int) ≤ (d : Int) := by omega
 have d1 : (d : Int) < 8 := by omega
 have s0 : (0 : Int) ≤ (s : Int) := by omega
 have s1 : (s : Int) < 8 := by omega
 have n0 : (op == 0) = false := by rw [beq_eq_false_iff_ne]; omega
 have n2 : (op == 2) = false := by rw [beq_eq_false_iff_ne]; omega
 have n4 : (op == 4) = false := by rw [beq_eq_false_iff_ne]; omega
 have n144 : (op == 144) = false := by rw [beq_eq_false_iff_ne]; omega
 have n145 : (op == 145) = false := by rw [beq_eq_false_iff_ne]; omega
 have n18 : (op == 18) = false := by rw [beq_eq_false_iff_ne]; omega
 have n19 : (op == 19) = false := by rw [beq_eq_false_iff_ne]; omega
 have g32 : decide (32 ≤ op) = true := decide_eq_true (by omega)
 have l46 : decide (op ≤ 46) = true := decide_eq_true (by omega)
 have HOP := Lib.hid (And.intro h1 h2)
 clear h1 h2
 clear h hI hd hs hi ha hb ho
 go_enter Tryz.func25, Tryz.ntmps25
 go_upto_region 1 with (fail)
 generalize V.alloc _ = W0 at *
 have KC := kcK (base := E.base) HI.out
 clear HI
 obtain ⟨i0, i1, i2, i3, i4, i5, i6⟩ := KC.out W0 (Keeps.refl _ _)
 go_upto_region 17 with (fail)
 clear i0 i1 i2 i3 i4 i5 i6
 clear n0 n2 n4 n144 n145 n18 n19 g32 l46
 refine' wp_region_flowR [[], [], [], [(114, 2)], [], [], [(117, 5)], [(116, 4)], [(119, 7)], [(120, 8)], [(121, 9), (118, 6)], [(122, 10)], [(112, 0), (113, 1), (114, 2), (115, 3), (116, 4), (117, 5), (118, 6), (119, 7), (120, 8), (121, 9), (122, 10), (123, 11)]] (relL [eqV _, eqV _, eqV _, eqV _, eqV _, eqV _, eqV _, eqV _, eqV _, eqV _, eqV _, eqV _]) (by kernel_rfl) (by kernel_rfl) ?_
 rotate_left 12
 iterate 12
  refine FlowR.step ?_ ?_
  ·intro V3 hV
   simp only [Dep, lQ]
   repeat rintro _ ⟨_, rfl, _⟩
   intro K hK
   obtain ⟨i0, i1, i2, i3, i4, i5, i6⟩ := KC.out _ (Keeps.of_below hV)
   obtain cR := (HM.out.next hV).cell (7 + s) _ (mcells_getR E _ _ ov s HS.out)
   go_simp
   refine hK _ _ ?_ (Below.refl _ _)
   simp only [lR]
   exact rfl
 refine FlowR.last ?_
 intro V3 hV
 simp only [Dep, lQ]
 rintro x112 ⟨V112, rfl, hb112⟩
 rintro x113 ⟨V113, rfl, hb113⟩
 rintro x114 ⟨V114, rfl, hb114⟩
 rintro x115 ⟨V115, rfl, hb115⟩
 rintro x116 ⟨V116, rfl, hb116⟩
 rintro x117 ⟨V117, rfl, hb117⟩
 rintro x118 ⟨V118, rfl, hb118⟩
 rintro x119 ⟨V119, rfl, hb119⟩
 rintro x120 ⟨V120, rfl, hb120⟩
 rintro x121 ⟨V121, rfl, hb121⟩
 rintro x122 ⟨V122, rfl, hb122⟩
 rintro x123 ⟨V123, rfl, hb123⟩
 intro K hK
 go_simp
 go_at_call 42
 refine (arith_any (HM.out.next hV) op HOP.out.1 HOP.out.2 d HD.out (m.R s) (H.out.ok.R s)).mono ?_
 intro e w9 hdone
 generalize arithM m op d (m.R s) = r at *
 rcases r with x | m'
 ·obtain ⟨rfl, htt⟩ := hdone
  exact ⟨rfl, Done.pre H.out HBel.out (Done.pre HM.out hV (done_err rfl htt))⟩
 ·obtain ⟨rfl, hdd⟩ := hdone
  have HDD := Lib.hid hdd
  have HV := Lib.hid hV
  refine hK _ _ ?_
  clear hK hdd hV
  go_wp2_with fail
  exact ends (v := .tuple #[]) (by simp [results, Tryz.results25]) rfl (Done.pre H.out HBel.out (Done.pre HM.out HV.out (done_ok rfl HDD.out)))
set_option maxRecDepth 8000 in
set_option maxHeartbeats 4000000 in
theorem exec_as {E : Env} {V : World} {m : Mach} {sv ov : Value} (h : MachAt E V m sv ov) (op : Int) (d s : Nat) (imm aux bank size : Int) (hd : d < 8) (hs : s < 8) (hi : OkU16 imm) (ha : OkU16 aux) (hb : 0 ≤ bank ∧ bank < 256) (ho : m.out.length < 1000000000000) (h1 : 48 ≤ op) (h2 : op ≤ 62) : Calls Tryz.prog 25 #[.pointer (some ⟨E.B, 0, none⟩), .agg #[.int .i64 op, .int .i64 (d : Int), .int .i64 (s : Int), .int .u16 imm, .int .u16 aux, .int .i64 bank, .int .i64 size]] V (Done E V m sv ov (arithM m (op - 16) d imm)) := by
 obtain ⟨hI, HM, HBel, -⟩ := box26 h op d s imm aux bank size
 have HI := Lib.hid hI
 have H := Lib.hid h
 have HD := Lib.hid hd
 have HS := Lib.hid hs
 have HII := Lib.hid hi
 have HAX := Lib.hid ha
 have HBK := Lib.hid hb
 have HO : Hid (m.out.length < 1000000000000) := Lib.hid ho
 have d0 : (0 : Int) ≤ (d : Int) := by omega
 have d1 : (d : Int) < 8 := by omega
 have s0 : (0 : Int) ≤ (s : Int) := by omega
 have s1 : (s : Int) < 8 := by omega
 have n0 : (op == 0) = false := by rw [beq_eq_false_iff_ne]; omega
 have n2 : (op == 2) = false := by rw [beq_eq_false_iff_ne]; omega
 have n4 : (op == 4) = false := by rw [beq_eq_false_iff_ne]; omega
 have n144 : (op == 144) = false := by rw [beq_eq_false_iff_ne]; omega
 have n145 : (op == 145) = false := by rw [beq_eq_false_iff_ne]; omega
 have n18 : (op == 18) = false := by rw [beq_eq_false_iff_ne]; omega
 have n19 : (op == 19) = false := by rw [beq_eq_false_iff_ne]; omega
 have g32 : decide (32 ≤ op) = true := decide_eq_true (by omega)
 have l46 : decide (op ≤ 46) = false := decide_eq_false (by omega)
 have g48 : decide (48 ≤ op) = true := decide_eq_true (by omega)
 have l62 : decide (op ≤ 62) = true := decide_eq_true (by omega)
 have q1 : IntKind.i64.wrap (op - 16) = op - 16 := IntWalk.i64_in _ (by omega)
 have HOP := Lib.hid (And.intro h1 h2)
 clear h1 h2
 clear h hI hd hs hi ha hb ho
 go_enter Tryz.func25, Tryz.ntmps25
 go_upto_region 1 with (fail)
 generalize V.alloc _ = W0 at *
 have KC := kcK (base := E.base) HI.out
 clear HI
 obtain ⟨i0, i1, i2, i3, i4, i5, i6⟩ := KC.out W0 (Keeps.refl _ _)
 go_wp2_with fail
 clear i0 i1 i2 i3 i4 i5 i6
 refine (arith_any HM.out (op - 16) (by have := HOP.out; omega) (by have := HOP.out; omega) d HD.out imm HII.out).mono ?_
 intro e w9 hdone
 generalize arithM m (op - 16) d imm = r at *
 rcases r with x | m'
 ·obtain ⟨rfl, htt⟩ := hdone
  exact panics rfl (Done.pre H.out HBel.out (done_err rfl htt))
 ·obtain ⟨rfl, hdd⟩ := hdone
  have HDD := Lib.hid hdd
  clear hdd
  go_wp2_with fail
  exact ends (v := .tuple #[]) (by simp [results, Tryz.results25]) rfl (Done.pre H.out HBel.out (done_ok rfl HDD.out))
set_option maxRecDepth 8000 in
set_option maxHeartbeats 4000000 in
theorem exec_al {E : Env} {V : World} {m : Mach} {sv ov : Value} (h : MachAt E V m sv ov) (op : Int) (d s : Nat) (imm aux bank size : Int) (hd : d < 8) (hs : s < 8) (hi : OkU16 imm) (ha : OkU16 aux) (hb : 0 ≤ bank ∧ bank < 256) (ho : m.out.length < 1000000000000) (h1 : 64 ≤ op) (h2 : op ≤ 78) : Calls Tryz.prog 25 #[.pointer (some ⟨E.B, 0, none⟩), .agg #[.int .i64 op, .int .i64 (d : Int), .int .i64 (s : Int), .int .u16 imm, .int .u16 aux, .int .i64 bank, .int .i64 size]] V (Done E V m sv ov (arithM m (op - 32) d imm)) := by
 obtain ⟨hI, HM, HBel, -⟩ := box26 h op d s imm aux bank size
 have HI := Lib.hid hI
 have H := Lib.hid h
 have HD := Lib.hid hd
 have HS := Lib.hid hs
 have HII := Lib.hid hi
 have HAX := Lib.hid ha
 have HBK := Lib.hid hb
 have HO : Hid (m.out.length < 1000000000000) := Lib.hid ho
 have d0 : (0 : Int) ≤ (d : Int) := by omega
 have d1 : (d : Int) < 8 := by omega
 have s0 : (0 : Int) ≤ (s : Int) := by omega
 have s1 : (s : Int) < 8 := by omega
 have n0 : (op == 0) = false := by rw [beq_eq_false_iff_ne]; omega
 have n2 : (op == 2) = false := by rw [beq_eq_false_iff_ne]; omega
 have n4 : (op == 4) = false := by rw [beq_eq_false_iff_ne]; omega
 have n144 : (op == 144) = false := by rw [beq_eq_false_iff_ne]; omega
 have n145 : (op == 145) = false := by rw [beq_eq_false_iff_ne]; omega
 have n18 : (op == 18) = false := by rw [beq_eq_false_iff_ne]; omega
 have n19 : (op == 19) = false := by rw [beq_eq_false_iff_ne]; omega
 have g32 : decide (32 ≤ op) = true := decide_eq_true (by omega)
 have l46 : decide (op ≤ 46) = false := decide_eq_false (by omega)
 have g48 : decide (48 ≤ op) = true := decide_eq_true (by omega)
 have l62 : decide (op ≤ 62) = false := decide_eq_false (by omega)
 have g64 : decide (64 ≤ op) = true := decide_eq_true (by omega)
 have l78 : decide (op ≤ 78) = true := decide_eq_true (by omega)
 have q1 : IntKind.i64.wrap (op - 32) = op - 32 := IntWalk.i64_in _ (by omega)
 have HOP := Lib.hid (And.intro h1 h2)
 clear h1 h2
 clear h hI hd hs hi ha hb ho
 go_enter Tryz.func25, Tryz.ntmps25
 go_upto_region 1 with (fail)
 generalize V.alloc _ = W0 at *
 have KC := kcK (base := E.base) HI.out
 clear HI
 obtain ⟨i0, i1, i2, i3, i4, i5, i6⟩ := KC.out W0 (Keeps.refl _ _)
 go_wp2_with fail
 clear i0 i1 i2 i3 i4 i5 i6
 refine (arith_any HM.out (op - 32) (by have := HOP.out; omega) (by have := HOP.out; omega) d HD.out imm HII.out).mono ?_
 intro e w9 hdone
 generalize arithM m (op - 32) d imm = r at *
 rcases r with x | m'
 ·obtain ⟨rfl, htt⟩ := hdone
  exact panics rfl (Done.pre H.out HBel.out (done_err rfl htt))
 ·obtain ⟨rfl, hdd⟩ := hdone
  have HDD := Lib.hid hdd
  clear hdd
  go_wp2_with fail
  exact ends (v := .tuple #[]) (by simp [results, Tryz.results25]) rfl (Done.pre H.out HBel.out (done_ok rfl HDD.out))
def restM (E : Env) (m : Mach) (i : InsI) (d s : Nat) : Except (Int × Int) Mach :=
 match accessM E m i d s with
 | some r => r
 | none => match stackM m i d with
  | some r => r
  | none => match controlM E m i d with
   | some r => r
   | none => .ok m
theorem tried_cases {E : Env} {V : World} {m : Mach} {sv ov : Value} {r : Option (Except (Int × Int) Mach)} {e : Ending} {w' : World} (t : Tried E V m sv ov r e w') :
  (r = none ∧ e = .returned (.bool false) ∧ Below V.heap.size V w') ∨ (∃ m', r = some (.ok m') ∧ e = .returned (.bool true) ∧ Did E V m w' m') ∨ (∃ x, r = some (.error x) ∧ e = trapE x.1 x.2 ∧ Trapped E V m sv ov w') := by
 unfold Tried at t
 rcases r with _ | x | m'
 ·exact .inl ⟨rfl, t⟩
 ·exact .inr (.inr ⟨x, rfl, t⟩)
 ·exact .inr (.inl ⟨m', rfl, t⟩)
set_option maxRecDepth 8000 in
set_option maxHeartbeats 16000000 in
theorem exec_rest {E : Env} {V : World} {m : Mach} {sv ov : Value} (h : MachAt E V m sv ov) (op : Int) (d s : Nat) (imm aux bank size : Int) (hd : d < 8) (hs : s < 8) (hi : OkU16 imm) (ha : OkU16 aux) (hb : 0 ≤ bank ∧ bank < 256) (ho : m.out.length < 1000000000000) (hn : op ≠ 0 ∧ op ≠ 2 ∧ op ≠ 4 ∧ op ≠ 144 ∧ op ≠ 145 ∧ op ≠ 18 ∧ op ≠ 19 ∧ ¬ (32 ≤ op ∧ op ≤ 46) ∧ ¬ (48 ≤ op ∧ op ≤ 62) ∧ ¬ (64 ≤ op ∧ op ≤ 78)) (hr : op < 32 ∨ op = 47 ∨ op = 63 ∨ 78 < op) : Calls Tryz.prog 25 #[.pointer (some ⟨E.B, 0, none⟩), .agg #[.int .i64 op, .int .i64 (d : Int), .int .i64 (s : Int), .int .u16 imm, .int .u16 aux, .int .i64 bank, .int .i64 size]] V (Done E V m sv ov (restM E m ⟨op, d, s, imm, aux, bank, size⟩ d s)) := by
 obtain ⟨hI, HM, HBel, -⟩ := box26 h op d s imm aux bank size
 have HI := Lib.hid hI
 have H := Lib.hid h
 have HD := Lib.hid hd
 have HS := Lib.hid hs
 have HII := Lib.hid hi
 have HAX := Lib.hid ha
 have HBK := Lib.hid hb
 have HO : Hid (m.out.length < 1000000000000) := Lib.hid ho
 have d0 : (0 : Int) ≤ (d : Int) := by omega
 have d1 : (d : Int) < 8 := by omega
 have s0 : (0 : Int) ≤ (s : Int) := by omega
 have s1 : (s : Int) < 8 := by omega
 have n0 : (op == 0) = false := by rw [beq_eq_false_iff_ne]; omega
 have n2 : (op == 2) = false := by rw [beq_eq_false_iff_ne]; omega
 have n4 : (op == 4) = false := by rw [beq_eq_false_iff_ne]; omega
 have n144 : (op == 144) = false := by rw [beq_eq_false_iff_ne]; omega
 have n145 : (op == 145) = false := by rw [beq_eq_false_iff_ne]; omega
 have n18 : (op == 18) = false := by rw [beq_eq_false_iff_ne]; omega
 have n19 : (op == 19) = false := by rw [beq_eq_false_iff_ne]; omega
 rcases hr with hr | hr | hr | hr
 have g32 : decide (32 ≤ op) = false := decide_eq_false (by omega)
 iterate 2
  have g48 : decide (48 ≤ op) = false := decide_eq_false (by omega)
  have g64 : decide (64 ≤ op) = false := decide_eq_false (by omega)
  rotate_left
  have g32 : decide (32 ≤ op) = true := decide_eq_true (by omega)
  have l46 : decide (op ≤ 46) = false := decide_eq_false (by omega)
 have g48 : decide (48 ≤ op) = true := decide_eq_true (by omega)
 have l62 : decide (op ≤ 62) = false := decide_eq_false (by omega)
 have g64 : decide (64 ≤ op) = false := decide_eq_false (by omega)
 rotate_left
 have g32 : decide (32 ≤ op) = true := decide_eq_true (by omega)
 have l46 : decide (op ≤ 46) = false := decide_eq_false (by omega)
 have g48 : decide (48 ≤ op) = true := decide_eq_true (by omega)
 have l62 : decide (op ≤ 62) = false := decide_eq_false (by omega)
 have g64 : decide (64 ≤ op) = true := decide_eq_true (by omega)
 have l78 : decide (op ≤ 78) = false := decide_eq_false (by omega)
 rotate_left
 all_goals
  clear hn hr
  clear h hI hd hs hi ha hb ho
  go_enter Tryz.func25, Tryz.ntmps25
  go_upto_region 1 with (fail)
  generalize V.alloc _ = W0 at *
  have KC := kcK (base := E.base) HI.out
  clear HI
  obtain ⟨i0, i1, i2, i3, i4, i5, i6⟩ := KC.out W0 (Keeps.refl _ _)
  go_wp2_with fail
  refine (access_any HM.out ⟨op, d, s, imm, aux, bank, size⟩ d s rfl rfl HD.out HS.out HII.out HAX.out HBK.out.1).mono ?_
  intro e w9 ht
  rcases tried_cases ht with ⟨hz, rfl, hb⟩ | ⟨m', hz, rfl, hdd⟩ | ⟨x, hz, rfl, htt⟩
  rotate_left
  ·have HR : Hid (restM E m ⟨op, d, s, imm, aux, bank, size⟩ d s = .ok m') := Lib.hid (by unfold restM; rw [hz])
   have HDD := Lib.hid hdd
   clear hdd ht hz
   go_wp2_with fail
   exact ends (v := .tuple #[]) (by simp [results, Tryz.results25]) rfl (Done.pre H.out HBel.out (done_ok HR.out HDD.out))
  ·exact panics rfl (Done.pre H.out HBel.out (done_err (by unfold restM; rw [hz]) htt))
  have HZ1 := Lib.hid hz
  have HM1 := Lib.hid (HM.out.next hb)
  have HB1 := Lib.hid (below_next HBel.out hb)
  have HKW := Lib.hid (Keeps.of_below (base := E.base) hb)
  clear i0 i1 i2 i3 i4 i5 i6
  obtain ⟨i0, i1, i2, i3, i4, i5, i6⟩ := KC.out w9 (Keeps.of_below hb)
  clear ht hz hb
  go_wp2_with fail
  refine (stack_any HM1.out ⟨op, d, s, imm, aux, bank, size⟩ d rfl HD.out HII.out).mono ?_
  intro e w8 ht
  rcases tried_cases ht with ⟨hz, rfl, hb⟩ | ⟨m', hz, rfl, hdd⟩ | ⟨x, hz, rfl, htt⟩
  rotate_left
  ·have HR : Hid (restM E m ⟨op, d, s, imm, aux, bank, size⟩ d s = .ok m') := Lib.hid (by unfold restM; rw [HZ1.out]; dsimp only; rw [hz])
   have HDD := Lib.hid hdd
   clear hdd ht hz
   go_wp2_with fail
   exact ends (v := .tuple #[]) (by simp [results, Tryz.results25]) rfl (Done.pre H.out HB1.out (done_ok HR.out HDD.out))
  ·exact panics rfl (Done.pre H.out HB1.out (done_err (by unfold restM; rw [HZ1.out]; dsimp only; rw [hz]) htt))
  have HZ2 := Lib.hid hz
  have HM2 := Lib.hid (HM1.out.next hb)
  have HB2 := Lib.hid (below_next HB1.out hb)
  clear i0 i1 i2 i3 i4 i5 i6
  obtain ⟨i0, i1, i2, i3, i4, i5, i6⟩ := KC.out w8 (HKW.out.trans (Keeps.of_below hb))
  clear ht hz hb
  go_wp2_with fail
  refine (control_any HM2.out ⟨op, d, s, imm, aux, bank, size⟩ d rfl HD.out HII.out HAX.out (by have := HBK.out; unfold OkI64; dsimp only; omega)).mono ?_
  intro e w7 ht
  rcases tried_cases ht with ⟨hz, rfl, hb⟩ | ⟨m', hz, rfl, hdd⟩ | ⟨x, hz, rfl, htt⟩
  ·have HR : Hid (restM E m ⟨op, d, s, imm, aux, bank, size⟩ d s = .ok m) := Lib.hid (by unfold restM; rw [HZ1.out]; dsimp only; rw [HZ2.out]; dsimp only; rw [hz])
   have HDD : Hid (Did E w8 m w7 m) := Lib.hid (Did.mk ⟨_, _, HM2.out.next hb⟩ (Keeps.of_below (base := E.base) hb))
   clear ht hz hb
   go_wp2_with fail
   exact ends (v := .tuple #[]) (by simp [results, Tryz.results25]) rfl (Done.pre H.out HB2.out (done_ok HR.out HDD.out))
  ·have HR : Hid (restM E m ⟨op, d, s, imm, aux, bank, size⟩ d s = .ok m') := Lib.hid (by unfold restM; rw [HZ1.out]; dsimp only; rw [HZ2.out]; dsimp only; rw [hz])
   have HDD := Lib.hid hdd
   clear hdd ht hz
   go_wp2_with fail
   exact ends (v := .tuple #[]) (by simp [results, Tryz.results25]) rfl (Done.pre H.out HB2.out (done_ok HR.out HDD.out))
  ·exact panics rfl (Done.pre H.out HB2.out (done_err (by unfold restM; rw [HZ1.out]; dsimp only; rw [HZ2.out]; dsimp only; rw [hz]) htt))
def execM (E : Env) (m : Mach) (i : InsI) (d s : Nat) : Except (Int × Int) Mach :=
 if i.op = 0 then .ok m else if i.op = 2 then .error (1, 0) else if i.op = 4 then pollM E m else if i.op = 144 ∨ i.op = 145 then .ok (portsM E m i.op d i.imm)
 else if i.op = 18 then .ok (negM m d) else if i.op = 19 then .ok (notM m d)
 else if 32 ≤ i.op ∧ i.op ≤ 46 then arithM m i.op d (m.R s) else if 48 ≤ i.op ∧ i.op ≤ 62 then arithM m (i.op - 16) d i.imm
 else if 64 ≤ i.op ∧ i.op ≤ 78 then arithM m (i.op - 32) d i.imm else restM E m i d s
theorem exec_any {E : Env} {V : World} {m : Mach} {sv ov : Value} (h : MachAt E V m sv ov) (i : InsI) (d s : Nat) (hid : i.d = d) (his : i.s = s) (hd : d < 8) (hs : s < 8) (hi : OkU16 i.imm) (ha : OkU16 i.aux) (hb : 0 ≤ i.bank ∧ i.bank < 256) (ho : m.out.length < 1000000000000) : Calls Tryz.prog 25 #[.pointer (some ⟨E.B, 0, none⟩), .agg #[.int .i64 i.op, .int .i64 i.d, .int .i64 i.s, .int .u16 i.imm, .int .u16 i.aux, .int .i64 i.bank, .int .i64 i.size]] V (Done E V m sv ov (execM E m i d s)) := by
 obtain ⟨op, di, si, imm, aux, bank, size⟩ := i
 dsimp only at hid his hi ha hb ⊢
 subst hid his
 unfold execM
 dsimp only
 split
 ·rename_i hz; subst hz; exact exec_nop h d s imm aux bank size hd hs hi ha hb ho
 split
 ·rename_i hz; subst hz; exact exec_hlt h d s imm aux bank size hd hs hi ha hb ho
 split
 ·rename_i hz; subst hz; exact exec_poll h d s imm aux bank size hd hs hi ha hb ho
 split
 ·rename_i hz; exact exec_ports h op d s imm aux bank size hd hs hi ha hb ho hz
 split
 ·rename_i hz; subst hz; exact exec_neg h d s imm aux bank size hd hs hi ha hb ho
 split
 ·rename_i hz; subst hz; exact exec_not h d s imm aux bank size hd hs hi ha hb ho
 split
 ·rename_i hz; exact exec_ar h op d s imm aux bank size hd hs hi ha hb ho hz.1 hz.2
 split
 ·rename_i hz; exact exec_as h op d s imm aux bank size hd hs hi ha hb ho hz.1 hz.2
 split
 ·rename_i hz; exact exec_al h op d s imm aux bank size hd hs hi ha hb ho hz.1 hz.2
 rename_i e0 e2 e4 e5 e18 e19 e32 e48 e64
 have hn : op ≠ 0 ∧ op ≠ 2 ∧ op ≠ 4 ∧ op ≠ 144 ∧ op ≠ 145 ∧ op ≠ 18 ∧ op ≠ 19 ∧ ¬ (32 ≤ op ∧ op ≤ 46) ∧ ¬ (48 ≤ op ∧ op ≤ 62) ∧ ¬ (64 ≤ op ∧ op ≤ 78) := ⟨e0, e2, e4, fun q => e5 (.inl q), fun q => e5 (.inr q), e18, e19, e32, e48, e64⟩
 exact exec_rest h op d s imm aux bank size hd hs hi ha hb ho hn (by omega)
end Go.Proofs.YtieaicdihingkaaGreat
