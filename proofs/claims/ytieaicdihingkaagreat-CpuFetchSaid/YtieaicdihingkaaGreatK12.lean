/- access: the instructions that access RAM or constants. -/
import Derived.Test.YtieaicdihingkaaGreatK11
import Derived.Test.YtieaicdihingkaaGreatFlowW
import Derived.Test.YtieaicdihingkaaGreatFlow
namespace Go.Proofs.YtieaicdihingkaaGreat
set_option linter.unusedVariables false
set_option linter.unusedSimpArgs false
open Go.RowKit
def setD (m : Mach) (d : Nat) (x : Int) : Mach := { m with R := setR m.R d x }
def loadM (m : Mach) (a : Int) (n d : Nat) : Except (Int × Int) Mach := match ramBad a 0 n with | some x => .error (2, x) | none => .ok (setD m d (rdRam m a n))
def conM (E : Env) (m : Mach) (bank a : Int) (n d : Nat) : Except (Int × Int) Mach := match conBad E bank a 0 n with | some x => .error (2, x) | none => .ok (setD m d (rdRom E bank a n))
/-- The outcome of a method that reports whether the instruction was one of its own. -/
def Tried (E : Env) (V : World) (m : Mach) (sv ov : Value) (r : Option (Except (Int × Int) Mach)) (e : Ending) (w' : World) : Prop :=
 match r with
 | none => e = .returned (.bool false) ∧ Below V.heap.size V w'
 | some (.ok m') => e = .returned (.bool true) ∧ Did E V m w' m'
 | some (.error t) => e = trapE t.1 t.2 ∧ Trapped E V m sv ov w'
theorem tried_none {E : Env} {V : World} {m : Mach} {sv ov : Value} {r : Option (Except (Int × Int) Mach)} {w' : World} (hr : r = none) (h : Below V.heap.size V w') : Tried E V m sv ov r (.returned (.bool false)) w' := by subst hr; exact ⟨rfl, h⟩
theorem tried_ok {E : Env} {V : World} {m m' : Mach} {sv ov : Value} {r : Option (Except (Int × Int) Mach)} {w' : World} (hr : r = some (.ok m')) (h : Did E V m w' m') : Tried E V m sv ov r (.returned (.bool true)) w' := by subst hr; exact ⟨rfl, h⟩
theorem tried_err {E : Env} {V : World} {m : Mach} {sv ov : Value} {r : Option (Except (Int × Int) Mach)} {w' : World} {a b : Int} (hr : r = some (.error (a, b))) (h : Trapped E V m sv ov w') : Tried E V m sv ov r (trapE a b) w' := by subst hr; exact ⟨rfl, h⟩
theorem Trapped.pre {E : Env} {V W w' : World} {m : Mach} {sv ov : Value} (h : MachAt E V m sv ov) (hb : Below V.heap.size V W) (t : Trapped E W m sv ov w') : Trapped E V m sv ov w' := ⟨t.at', t.st, (Keeps.of_below hb).trans t.keeps⟩
theorem Did.pre {E : Env} {V W w' : World} {m m' : Mach} (hb : Below V.heap.size V W) (t : Did E W m w' m') : Did E V m w' m' := ⟨t.at', (Keeps.of_below hb).trans t.keeps⟩
theorem rdRam_ok {m : Mach} (h : m.Ok) (a : Int) (n : Nat) : OkU16 (rdRam m a n) := by
 have h0 := h.ram ((a + (0 : Nat)) % 65536 - 16384).toNat
 have h1 := h.ram ((a + (1 : Nat)) % 65536 - 16384).toNat
 unfold OkU16
 match n with
 | 0 => show 0 ≤ (0 : Int) ∧ (0 : Int) < 65536; omega
 | 1 => show 0 ≤ m.ram _ ∧ m.ram _ < 65536; omega
 | n + 2 => show 0 ≤ m.ram _ + m.ram _ * 256 ∧ m.ram _ + m.ram _ * 256 < 65536; omega
theorem rdRom_ok (E : Env) (bank a : Int) (n : Nat) : OkU16 (rdRom E bank a n) := by
 have h0 := byteI_bd (bankAt E.banks bank) ((a + (0 : Nat)) % 65536).toNat
 have h1 := byteI_bd (bankAt E.banks bank) ((a + (1 : Nat)) % 65536).toNat
 unfold OkU16
 match n with
 | 0 => show 0 ≤ (0 : Int) ∧ (0 : Int) < 65536; omega
 | 1 => show 0 ≤ byteI _ _ ∧ byteI _ _ < 65536; omega
 | n + 2 => show 0 ≤ byteI _ _ + byteI _ _ * 256 ∧ byteI _ _ + byteI _ _ * 256 < 65536; omega
def addrA (m : Mach) (s : Nat) (imm : Int) : Int := (m.R s + imm) % 65536
theorem addrA_ok (m : Mach) (s : Nat) (imm : Int) : OkU16 (addrA m s imm) := by unfold OkU16 addrA; omega
theorem kcB {E : Env} {W0 : World} {m : Mach} {sv ov : Value} {B : Nat} {op imm aux bank size : Int} {d s : Nat} (h : InsAt W0 B ⟨op, d, s, imm, aux, bank, size⟩) (hm : MachAt E W0 m sv ov) (hs : s < 8) (hd : d < 8) : Hid (∀ W, Below W0.heap.size W0 W → (W.cell? ⟨B, 0, none⟩ = some (.int .i64 op) ∧ W.cell? ⟨B, 1, none⟩ = some (.int .i64 d) ∧ W.cell? ⟨B, 2, none⟩ = some (.int .i64 s) ∧ W.cell? ⟨B, 3, none⟩ = some (.int .u16 imm) ∧ W.cell? ⟨B, 4, none⟩ = some (.int .u16 aux) ∧ W.cell? ⟨B, 5, none⟩ = some (.int .i64 bank) ∧ W.cell? ⟨B, 6, none⟩ = some (.int .i64 size)) ∧ MachAt E W m sv ov ∧ W.cell? ⟨E.B, 7 + s, none⟩ = some (.int .u16 (m.R s)) ∧ W.cell? ⟨E.B, 7 + d, none⟩ = some (.int .u16 (m.R d)) ∧ W.frozen? ⟨E.B, 7 + d, none⟩ = false) := Lib.hid fun W hW => by
 have hm := hm.next hW
 exact ⟨InsAt.cells (i := ⟨op, d, s, imm, aux, bank, size⟩) ((hW.block _ (Array.getElem?_eq_some_iff.1 h).1).trans h), hm, hm.cell (7 + s) _ (mcells_getR E m sv ov s hs), hm.cell (7 + d) _ (mcells_getR E m sv ov d hd), hm.frz (7 + d)⟩
set_option maxRecDepth 8000 in
set_option maxHeartbeats 4000000 in
theorem access_80e {E : Env} {V : World} {m : Mach} {sv ov : Value} (h : MachAt E V m sv ov) (op A : Int) (d s : Nat) (imm aux bank size : Int) (hd : d < 8) (hs : s < 8) (hi : OkU16 imm) (ha : OkU16 aux) (hb : 0 ≤ bank) (hop : (op = 80 ∧ A = addrA m s imm) ∨ (op = 84 ∧ A = imm) ∨ (op = 88 ∧ A = addrA m s imm)) (x : Int) (hx : ramBad A 0 2 = some x) : Calls Tryz.prog 43 #[.pointer (some ⟨E.B, 0, none⟩), .agg #[.int .i64 op, .int .i64 (d : Int), .int .i64 (s : Int), .int .u16 imm, .int .u16 aux, .int .i64 bank, .int .i64 size]] V (Tried E V m sv ov (some (loadM m A 2 d))) := by
 obtain ⟨hI, HM, HBel, HLT⟩ := box26 h op d s imm aux bank size
 have HI := Lib.hid hI
 have H := Lib.hid h
 have HD := Lib.hid hd
 have HS := Lib.hid hs
 have HA := Lib.hid ha
 have HII := Lib.hid hi
 have HBK := Lib.hid hb
 have d0 : (0 : Int) ≤ (d : Int) := by omega
 have d1 : (d : Int) < 8 := by omega
 have e0 : (0 : Int) ≤ (s : Int) := by omega
 have e1 : (s : Int) < 8 := by omega
 have hw : IntKind.u16.wrap (m.R s + imm) = addrA m s imm := by rw [IntKind.wrap_u16]; rfl
 have HX := Lib.hid hx
 clear hx
 have HAO : Hid (OkU16 A) := Lib.hid (by rcases hop with ⟨rfl, rfl⟩ | ⟨rfl, rfl⟩ | ⟨rfl, rfl⟩ <;> first | exact addrA_ok _ _ _ | exact hi)
 obtain ⟨B, hB⟩ : ∃ B, addrA m s imm = B := ⟨_, rfl⟩
 rw [hB] at hw hop
 have HOP := Lib.hid hop
 clear hop hB
 clear h hI hd hs ha hi hb
 go_enter Tryz.func43, Tryz.ntmps43
 go_upto_region 1 with (fail)
 generalize V.alloc _ = W0 at *
 have KC := kcB HI.out HM.out HS.out HD.out
 clear HM HI
 refine wp_region_flow (S := fun W => Below W0.heap.size W0 W) (by kernel_rfl) (by kernel_rfl) (Below.drew (Below.refl _ _)) ?_
 iterate 15
  apply Flow.step
  ·intro V2 K hS hK
   obtain ⟨⟨i0, i1, i2, i3, i4, i5, i6⟩, hm, cs, cd, zd⟩ := KC.out V2 hS
   go_simp
   exact hK _ hS
  simp only [lQ]
 refine Flow.done ?_
 intro V2 hS
 have HB2 := Lib.hid hS
 clear hS
 obtain ⟨⟨i0, i1, i2, i3, i4, i5, i6⟩, _⟩ := KC.out V2 HB2.out
 clear i0 i1 i2 i3 i4 i5 i6
 rcases HOP.out with ⟨rfl, rfl⟩ | ⟨rfl, rfl⟩ | ⟨rfl, rfl⟩
 all_goals
  obtain ⟨⟨i0, i1, i2, i3, i4, i5, i6⟩, _⟩ := KC.out V2 HB2.out
  go_upto_region 9 with (fail)
  clear i0 i1 i2 i3 i4 i5 i6
  try clear hw
  have HC : Hid (∀ W, Below V2.heap.size V2 W → Calls Tryz.prog 70 #[.pointer (some ⟨E.B, 0, none⟩), .int .u16 A, .int .i64 2] W fun e w' => e = .panicked [{ v := .iface 65 (.agg #[.int .i64 2, .int .u16 x]), recovered := false }] ∧ Below W.heap.size W w') := Lib.hid fun W hW => by
   have HMW := (KC.out W (below_next HB2.out hW)).2.1
   refine (load_any HMW A HAO.out 2 (by omega)).mono fun e w' q => ?_
   unfold LoadPost at q
   rw [HX.out] at q
   exact q
  have HR : Hid (some (loadM m A 2 d) = some (.error (2, x))) := Lib.hid (by unfold loadM; rw [HX.out])
  refine wp_region_flowW (S0 := fun W => Below V2.heap.size V2 W) (S1 := fun _ => False) (Z := fun c w' => Tried E V m sv ov (some (loadM m A 2 d)) (.panicked c) w') 5 (by kernel_rfl) (by kernel_rfl) (by kernel_rfl) (Below.drew (Below.refl _ _)) (fun chain b w' hd hz => ⟨hd, hz⟩) ?_
  iterate 5
   apply FlowW.step
   ·intro V3 K hS hK
    obtain hS := hS.resolve_right id
    obtain ⟨⟨i0, i1, i2, i3, i4, i5, i6⟩, hm, cs, cd, zd⟩ := KC.out _ (below_next HB2.out hS)
    go_simp
    exact hK
   simp only [lQ]
  refine FlowW.call (.int .u16 0) rfl ?_ ?_
  ·intro V3 K hS hK
   go_simp
   go_at_call 70
   refine (HC.out V3 hS).mono ?_
   rintro e w9 ⟨rfl, h9⟩
   exact ⟨_, rfl, tried_err HR.out (trapped_below H.out (below_next HBel.out (below_next (below_next HB2.out hS) h9)))⟩
  simp only [lQ]
  iterate 4
   apply FlowW.after
   ·intro V3 K hS hK
    go_simp
    exact hK
   simp only [lQ]
  refine FlowW.last ?_
  intro V3 K hS hK
  exact hS.elim
set_option maxRecDepth 8000 in
set_option maxHeartbeats 4000000 in
theorem access_80o {E : Env} {V : World} {m : Mach} {sv ov : Value} (h : MachAt E V m sv ov) (op A : Int) (d s : Nat) (imm aux bank size : Int) (hd : d < 8) (hs : s < 8) (hi : OkU16 imm) (ha : OkU16 aux) (hb : 0 ≤ bank) (hop : (op = 80 ∧ A = addrA m s imm) ∨ (op = 84 ∧ A = imm) ∨ (op = 88 ∧ A = addrA m s imm)) (hx : ramBad A 0 2 = none) : Calls Tryz.prog 43 #[.pointer (some ⟨E.B, 0, none⟩), .agg #[.int .i64 op, .int .i64 (d : Int), .int .i64 (s : Int), .int .u16 imm, .int .u16 aux, .int .i64 bank, .int .i64 size]] V (Tried E V m sv ov (some (loadM m A 2 d))) := by
 obtain ⟨hI, HM, HBel, HLT⟩ := box26 h op d s imm aux bank size
 have HI := Lib.hid hI
 have H := Lib.hid h
 have HD := Lib.hid hd
 have HS := Lib.hid hs
 have HA := Lib.hid ha
 have HII := Lib.hid hi
 have HBK := Lib.hid hb
 have d0 : (0 : Int) ≤ (d : Int) := by omega
 have d1 : (d : Int) < 8 := by omega
 have e0 : (0 : Int) ≤ (s : Int) := by omega
 have e1 : (s : Int) < 8 := by omega
 have hw : IntKind.u16.wrap (m.R s + imm) = addrA m s imm := by rw [IntKind.wrap_u16]; rfl
 have HX := Lib.hid hx
 clear hx
 have HAO : Hid (OkU16 A) := Lib.hid (by rcases hop with ⟨rfl, rfl⟩ | ⟨rfl, rfl⟩ | ⟨rfl, rfl⟩ <;> first | exact addrA_ok _ _ _ | exact hi)
 obtain ⟨B, hB⟩ : ∃ B, addrA m s imm = B := ⟨_, rfl⟩
 rw [hB] at hw hop
 have HOP := Lib.hid hop
 clear hop hB
 clear h hI hd hs ha hi hb
 go_enter Tryz.func43, Tryz.ntmps43
 go_upto_region 1 with (fail)
 generalize V.alloc _ = W0 at *
 have KC := kcB HI.out HM.out HS.out HD.out
 clear HM HI
 refine wp_region_flow (S := fun W => Below W0.heap.size W0 W) (by kernel_rfl) (by kernel_rfl) (Below.drew (Below.refl _ _)) ?_
 iterate 15
  apply Flow.step
  ·intro V2 K hS hK
   obtain ⟨⟨i0, i1, i2, i3, i4, i5, i6⟩, hm, cs, cd, zd⟩ := KC.out V2 hS
   go_simp
   exact hK _ hS
  simp only [lQ]
 refine Flow.done ?_
 intro V2 hS
 have HB2 := Lib.hid hS
 clear hS
 obtain ⟨⟨i0, i1, i2, i3, i4, i5, i6⟩, _⟩ := KC.out V2 HB2.out
 clear i0 i1 i2 i3 i4 i5 i6
 rcases HOP.out with ⟨rfl, rfl⟩ | ⟨rfl, rfl⟩ | ⟨rfl, rfl⟩
 all_goals
  obtain ⟨⟨i0, i1, i2, i3, i4, i5, i6⟩, _⟩ := KC.out V2 HB2.out
  go_upto_region 9 with (fail)
  clear i0 i1 i2 i3 i4 i5 i6
  try clear hw
  have HC : Hid (∀ W, Below V2.heap.size V2 W → Calls Tryz.prog 70 #[.pointer (some ⟨E.B, 0, none⟩), .int .u16 A, .int .i64 2] W fun e w' => e = .returned (.int .u16 (rdRam m A 2)) ∧ Below W.heap.size W w') := Lib.hid fun W hW => by
   have HMW := (KC.out W (below_next HB2.out hW)).2.1
   refine (load_any HMW A HAO.out 2 (by omega)).mono fun e w' q => ?_
   unfold LoadPost at q
   rw [HX.out] at q
   exact q
  have HOK : Hid (OkU16 (rdRam m A 2)) := Lib.hid (rdRam_ok H.out.ok _ _)
  have HR : Hid (some (loadM m A 2 d) = some (.ok (setD m d (rdRam m A 2)))) := Lib.hid (by unfold loadM; rw [HX.out])
  generalize rdRam m A 2 = y at *
  refine wp_region_flowW (S0 := fun W => Below V2.heap.size V2 W) (S1 := fun W => Below V2.heap.size V2 W) (Z := fun _ _ => False) 5 (by kernel_rfl) (by kernel_rfl) (by kernel_rfl) (Below.drew (Below.refl _ _)) (fun chain b w' hd hz => hz.elim) ?_
  iterate 5
   apply FlowW.step
   ·intro V3 K hS hK
    obtain hS := hS.elim id id
    obtain ⟨⟨i0, i1, i2, i3, i4, i5, i6⟩, hm, cs, cd, zd⟩ := KC.out _ (below_next HB2.out hS)
    go_simp
    exact hK
   simp only [lQ]
  refine FlowW.call ?_ rfl ?_ ?_
  rotate_left
  ·intro V3 K hS hK
   go_simp
   go_at_call 70
   refine (HC.out V3 hS).mono ?_
   rintro e w9 ⟨rfl, h9⟩
   exact hK _ (below_next hS h9)
  simp only [lQ]
  iterate 4
   apply FlowW.after
   ·intro V3 K hS hK
    go_simp
    exact hK
   simp only [lQ]
  refine FlowW.last ?_
  intro V3 K hS hK
  obtain ⟨⟨i0, i1, i2, i3, i4, i5, i6⟩, hm, cs, cd, zd⟩ := KC.out _ (below_next HB2.out hS)
  go_simp
  refine hK _ _ ?_
  have HM3 := Lib.hid hm
  have HB3 := Lib.hid (below_next HBel.out (below_next HB2.out hS))
  clear i0 i1 i2 i3 i4 i5 i6 hm cs cd zd hS hK
  go_wp2_with fail
  exact bodyPost_ret (v := .bool true) (by simp [results, Tryz.results43, go_sem]) rfl (tried_ok HR.out ⟨⟨_, _, HM3.out.setReg d HD.out HOK.out⟩, (Keeps.of_below HB3.out).trans (HM3.out.putK (7 + d) _)⟩)
set_option maxRecDepth 8000 in
set_option maxHeartbeats 4000000 in
theorem access_81e {E : Env} {V : World} {m : Mach} {sv ov : Value} (h : MachAt E V m sv ov) (op A : Int) (d s : Nat) (imm aux bank size : Int) (hd : d < 8) (hs : s < 8) (hi : OkU16 imm) (ha : OkU16 aux) (hb : 0 ≤ bank) (hop : (op = 81 ∧ A = addrA m s imm) ∨ (op = 85 ∧ A = imm) ∨ (op = 89 ∧ A = addrA m s imm)) (x : Int) (hx : ramBad A 0 1 = some x) : Calls Tryz.prog 43 #[.pointer (some ⟨E.B, 0, none⟩), .agg #[.int .i64 op, .int .i64 (d : Int), .int .i64 (s : Int), .int .u16 imm, .int .u16 aux, .int .i64 bank, .int .i64 size]] V (Tried E V m sv ov (some (loadM m A 1 d))) := by
 obtain ⟨hI, HM, HBel, HLT⟩ := box26 h op d s imm aux bank size
 have HI := Lib.hid hI
 have H := Lib.hid h
 have HD := Lib.hid hd
 have HS := Lib.hid hs
 have HA := Lib.hid ha
 have HII := Lib.hid hi
 have HBK := Lib.hid hb
 have d0 : (0 : Int) ≤ (d : Int) := by omega
 have d1 : (d : Int) < 8 := by omega
 have e0 : (0 : Int) ≤ (s : Int) := by omega
 have e1 : (s : Int) < 8 := by omega
 have hw : IntKind.u16.wrap (m.R s + imm) = addrA m s imm := by rw [IntKind.wrap_u16]; rfl
 have HX := Lib.hid hx
 clear hx
 have HAO : Hid (OkU16 A) := Lib.hid (by rcases hop with ⟨rfl, rfl⟩ | ⟨rfl, rfl⟩ | ⟨rfl, rfl⟩ <;> first | exact addrA_ok _ _ _ | exact hi)
 obtain ⟨B, hB⟩ : ∃ B, addrA m s imm = B := ⟨_, rfl⟩
 rw [hB] at hw hop
 have HOP := Lib.hid hop
 clear hop hB
 clear h hI hd hs ha hi hb
 go_enter Tryz.func43, Tryz.ntmps43
 go_upto_region 1 with (fail)
 generalize V.alloc _ = W0 at *
 have KC := kcB HI.out HM.out HS.out HD.out
 clear HM HI
 refine wp_region_flow (S := fun W => Below W0.heap.size W0 W) (by kernel_rfl) (by kernel_rfl) (Below.drew (Below.refl _ _)) ?_
 iterate 15
  apply Flow.step
  ·intro V2 K hS hK
   obtain ⟨⟨i0, i1, i2, i3, i4, i5, i6⟩, hm, cs, cd, zd⟩ := KC.out V2 hS
   go_simp
   exact hK _ hS
  simp only [lQ]
 refine Flow.done ?_
 intro V2 hS
 have HB2 := Lib.hid hS
 clear hS
 obtain ⟨⟨i0, i1, i2, i3, i4, i5, i6⟩, _⟩ := KC.out V2 HB2.out
 clear i0 i1 i2 i3 i4 i5 i6
 rcases HOP.out with ⟨rfl, rfl⟩ | ⟨rfl, rfl⟩ | ⟨rfl, rfl⟩
 all_goals
  obtain ⟨⟨i0, i1, i2, i3, i4, i5, i6⟩, _⟩ := KC.out V2 HB2.out
  go_upto_region 11 with (fail)
  clear i0 i1 i2 i3 i4 i5 i6
  try clear hw
  have HC : Hid (∀ W, Below V2.heap.size V2 W → Calls Tryz.prog 70 #[.pointer (some ⟨E.B, 0, none⟩), .int .u16 A, .int .i64 1] W fun e w' => e = .panicked [{ v := .iface 65 (.agg #[.int .i64 2, .int .u16 x]), recovered := false }] ∧ Below W.heap.size W w') := Lib.hid fun W hW => by
   have HMW := (KC.out W (below_next HB2.out hW)).2.1
   refine (load_any HMW A HAO.out 1 (by omega)).mono fun e w' q => ?_
   unfold LoadPost at q
   rw [HX.out] at q
   exact q
  have HR : Hid (some (loadM m A 1 d) = some (.error (2, x))) := Lib.hid (by unfold loadM; rw [HX.out])
  refine wp_region_flowW (S0 := fun W => Below V2.heap.size V2 W) (S1 := fun _ => False) (Z := fun c w' => Tried E V m sv ov (some (loadM m A 1 d)) (.panicked c) w') 5 (by kernel_rfl) (by kernel_rfl) (by kernel_rfl) (Below.drew (Below.refl _ _)) (fun chain b w' hd hz => ⟨hd, hz⟩) ?_
  iterate 5
   apply FlowW.step
   ·intro V3 K hS hK
    obtain hS := hS.resolve_right id
    obtain ⟨⟨i0, i1, i2, i3, i4, i5, i6⟩, hm, cs, cd, zd⟩ := KC.out _ (below_next HB2.out hS)
    go_simp
    exact hK
   simp only [lQ]
  refine FlowW.call (.int .u16 0) rfl ?_ ?_
  ·intro V3 K hS hK
   go_simp
   go_at_call 70
   refine (HC.out V3 hS).mono ?_
   rintro e w9 ⟨rfl, h9⟩
   exact ⟨_, rfl, tried_err HR.out (trapped_below H.out (below_next HBel.out (below_next (below_next HB2.out hS) h9)))⟩
  simp only [lQ]
  iterate 4
   apply FlowW.after
   ·intro V3 K hS hK
    go_simp
    exact hK
   simp only [lQ]
  refine FlowW.last ?_
  intro V3 K hS hK
  exact hS.elim
set_option maxRecDepth 8000 in
set_option maxHeartbeats 4000000 in
theorem access_81o {E : Env} {V : World} {m : Mach} {sv ov : Value} (h : MachAt E V m sv ov) (op A : Int) (d s : Nat) (imm aux bank size : Int) (hd : d < 8) (hs : s < 8) (hi : OkU16 imm) (ha : OkU16 aux) (hb : 0 ≤ bank) (hop : (op = 81 ∧ A = addrA m s imm) ∨ (op = 85 ∧ A = imm) ∨ (op = 89 ∧ A = addrA m s imm)) (hx : ramBad A 0 1 = none) : Calls Tryz.prog 43 #[.pointer (some ⟨E.B, 0, none⟩), .agg #[.int .i64 op, .int .i64 (d : Int), .int .i64 (s : Int), .int .u16 imm, .int .u16 aux, .int .i64 bank, .int .i64 size]] V (Tried E V m sv ov (some (loadM m A 1 d))) := by
 obtain ⟨hI, HM, HBel, HLT⟩ := box26 h op d s imm aux bank size
 have HI := Lib.hid hI
 have H := Lib.hid h
 have HD := Lib.hid hd
 have HS := Lib.hid hs
 have HA := Lib.hid ha
 have HII := Lib.hid hi
 have HBK := Lib.hid hb
 have d0 : (0 : Int) ≤ (d : Int) := by omega
 have d1 : (d : Int) < 8 := by omega
 have e0 : (0 : Int) ≤ (s : Int) := by omega
 have e1 : (s : Int) < 8 := by omega
 have hw : IntKind.u16.wrap (m.R s + imm) = addrA m s imm := by rw [IntKind.wrap_u16]; rfl
 have HX := Lib.hid hx
 clear hx
 have HAO : Hid (OkU16 A) := Lib.hid (by rcases hop with ⟨rfl, rfl⟩ | ⟨rfl, rfl⟩ | ⟨rfl, rfl⟩ <;> first | exact addrA_ok _ _ _ | exact hi)
 obtain ⟨B, hB⟩ : ∃ B, addrA m s imm = B := ⟨_, rfl⟩
 rw [hB] at hw hop
 have HOP := Lib.hid hop
 clear hop hB
 clear h hI hd hs ha hi hb
 go_enter Tryz.func43, Tryz.ntmps43
 go_upto_region 1 with (fail)
 generalize V.alloc _ = W0 at *
 have KC := kcB HI.out HM.out HS.out HD.out
 clear HM HI
 refine wp_region_flow (S := fun W => Below W0.heap.size W0 W) (by kernel_rfl) (by kernel_rfl) (Below.drew (Below.refl _ _)) ?_
 iterate 15
  apply Flow.step
  ·intro V2 K hS hK
   obtain ⟨⟨i0, i1, i2, i3, i4, i5, i6⟩, hm, cs, cd, zd⟩ := KC.out V2 hS
   go_simp
   exact hK _ hS
  simp only [lQ]
 refine Flow.done ?_
 intro V2 hS
 have HB2 := Lib.hid hS
 clear hS
 obtain ⟨⟨i0, i1, i2, i3, i4, i5, i6⟩, _⟩ := KC.out V2 HB2.out
 clear i0 i1 i2 i3 i4 i5 i6
 rcases HOP.out with ⟨rfl, rfl⟩ | ⟨rfl, rfl⟩ | ⟨rfl, rfl⟩
 all_goals
  obtain ⟨⟨i0, i1, i2, i3, i4, i5, i6⟩, _⟩ := KC.out V2 HB2.out
  go_upto_region 11 with (fail)
  clear i0 i1 i2 i3 i4 i5 i6
  try clear hw
  have HC : Hid (∀ W, Below V2.heap.size V2 W → Calls Tryz.prog 70 #[.pointer (some ⟨E.B, 0, none⟩), .int .u16 A, .int .i64 1] W fun e w' => e = .returned (.int .u16 (rdRam m A 1)) ∧ Below W.heap.size W w') := Lib.hid fun W hW => by
   have HMW := (KC.out W (below_next HB2.out hW)).2.1
   refine (load_any HMW A HAO.out 1 (by omega)).mono fun e w' q => ?_
   unfold LoadPost at q
   rw [HX.out] at q
   exact q
  have HOK : Hid (OkU16 (rdRam m A 1)) := Lib.hid (rdRam_ok H.out.ok _ _)
  have HR : Hid (some (loadM m A 1 d) = some (.ok (setD m d (rdRam m A 1)))) := Lib.hid (by unfold loadM; rw [HX.out])
  generalize rdRam m A 1 = y at *
  refine wp_region_flowW (S0 := fun W => Below V2.heap.size V2 W) (S1 := fun W => Below V2.heap.size V2 W) (Z := fun _ _ => False) 5 (by kernel_rfl) (by kernel_rfl) (by kernel_rfl) (Below.drew (Below.refl _ _)) (fun chain b w' hd hz => hz.elim) ?_
  iterate 5
   apply FlowW.step
   ·intro V3 K hS hK
    obtain hS := hS.elim id id
    obtain ⟨⟨i0, i1, i2, i3, i4, i5, i6⟩, hm, cs, cd, zd⟩ := KC.out _ (below_next HB2.out hS)
    go_simp
    exact hK
   simp only [lQ]
  refine FlowW.call ?_ rfl ?_ ?_
  rotate_left
  ·intro V3 K hS hK
   go_simp
   go_at_call 70
   refine (HC.out V3 hS).mono ?_
   rintro e w9 ⟨rfl, h9⟩
   exact hK _ (below_next hS h9)
  simp only [lQ]
  iterate 4
   apply FlowW.after
   ·intro V3 K hS hK
    go_simp
    exact hK
   simp only [lQ]
  refine FlowW.last ?_
  intro V3 K hS hK
  obtain ⟨⟨i0, i1, i2, i3, i4, i5, i6⟩, hm, cs, cd, zd⟩ := KC.out _ (below_next HB2.out hS)
  go_simp
  refine hK _ _ ?_
  have HM3 := Lib.hid hm
  have HB3 := Lib.hid (below_next HBel.out (below_next HB2.out hS))
  clear i0 i1 i2 i3 i4 i5 i6 hm cs cd zd hS hK
  go_wp2_with fail
  exact bodyPost_ret (v := .bool true) (by simp [results, Tryz.results43, go_sem]) rfl (tried_ok HR.out ⟨⟨_, _, HM3.out.setReg d HD.out HOK.out⟩, (Keeps.of_below HB3.out).trans (HM3.out.putK (7 + d) _)⟩)
set_option maxRecDepth 8000 in
set_option maxHeartbeats 4000000 in
theorem access_82e {E : Env} {V : World} {m : Mach} {sv ov : Value} (h : MachAt E V m sv ov) (op A : Int) (d s : Nat) (imm aux bank size : Int) (hd : d < 8) (hs : s < 8) (hi : OkU16 imm) (ha : OkU16 aux) (hb : 0 ≤ bank) (hop : (op = 82 ∧ A = addrA m s imm) ∨ (op = 86 ∧ A = imm) ∨ (op = 90 ∧ A = addrA m s imm)) (x : Int) (hx : storeM m A 2 (m.R d) = .error (2, x)) : Calls Tryz.prog 43 #[.pointer (some ⟨E.B, 0, none⟩), .agg #[.int .i64 op, .int .i64 (d : Int), .int .i64 (s : Int), .int .u16 imm, .int .u16 aux, .int .i64 bank, .int .i64 size]] V (Tried E V m sv ov (some (storeM m A 2 (m.R d)))) := by
 obtain ⟨hI, HM, HBel, HLT⟩ := box26 h op d s imm aux bank size
 have HI := Lib.hid hI
 have H := Lib.hid h
 have HD := Lib.hid hd
 have HS := Lib.hid hs
 have HA := Lib.hid ha
 have HII := Lib.hid hi
 have HBK := Lib.hid hb
 have d0 : (0 : Int) ≤ (d : Int) := by omega
 have d1 : (d : Int) < 8 := by omega
 have e0 : (0 : Int) ≤ (s : Int) := by omega
 have e1 : (s : Int) < 8 := by omega
 have hw : IntKind.u16.wrap (m.R s + imm) = addrA m s imm := by rw [IntKind.wrap_u16]; rfl
 have HX := Lib.hid hx
 clear hx
 have HAO : Hid (OkU16 A) := Lib.hid (by rcases hop with ⟨rfl, rfl⟩ | ⟨rfl, rfl⟩ | ⟨rfl, rfl⟩ <;> first | exact addrA_ok _ _ _ | exact hi)
 obtain ⟨B, hB⟩ : ∃ B, addrA m s imm = B := ⟨_, rfl⟩
 rw [hB] at hw hop
 have HOP := Lib.hid hop
 clear hop hB
 clear h hI hd hs ha hi hb
 go_enter Tryz.func43, Tryz.ntmps43
 go_upto_region 1 with (fail)
 generalize V.alloc _ = W0 at *
 have KC := kcB HI.out HM.out HS.out HD.out
 clear HM HI
 refine wp_region_flow (S := fun W => Below W0.heap.size W0 W) (by kernel_rfl) (by kernel_rfl) (Below.drew (Below.refl _ _)) ?_
 iterate 15
  apply Flow.step
  ·intro V2 K hS hK
   obtain ⟨⟨i0, i1, i2, i3, i4, i5, i6⟩, hm, cs, cd, zd⟩ := KC.out V2 hS
   go_simp
   exact hK _ hS
  simp only [lQ]
 refine Flow.done ?_
 intro V2 hS
 have HB2 := Lib.hid hS
 clear hS
 obtain ⟨⟨i0, i1, i2, i3, i4, i5, i6⟩, _⟩ := KC.out V2 HB2.out
 clear i0 i1 i2 i3 i4 i5 i6
 rcases HOP.out with ⟨rfl, rfl⟩ | ⟨rfl, rfl⟩ | ⟨rfl, rfl⟩
 all_goals
  obtain ⟨⟨i0, i1, i2, i3, i4, i5, i6⟩, _⟩ := KC.out V2 HB2.out
  go_upto_region 13 with (fail)
  clear i0 i1 i2 i3 i4 i5 i6
  try clear hw
  have HC : Hid (∀ W, Below V2.heap.size V2 W → Calls Tryz.prog 71 #[.pointer (some ⟨E.B, 0, none⟩), .int .u16 A, .int .i64 2, .int .u16 (m.R d)] W fun e w' => e = .panicked [{ v := .iface 65 (.agg #[.int .i64 2, .int .u16 x]), recovered := false }] ∧ Trapped E W m sv ov w') := Lib.hid fun W hW => by
   have HMW := (KC.out W (below_next HB2.out hW)).2.1
   refine (store_any HMW A (m.R d) HAO.out (H.out.ok.R d) 2 (by omega)).mono fun e w' q => ?_
   unfold Done at q
   rw [HX.out] at q
   exact q
  have HR : Hid (some (storeM m A 2 (m.R d)) = some (.error (2, x))) := Lib.hid (by rw [HX.out])
  refine' wp_region_flowR [[], [], [], [], [(70, 3)], [(69, 2)], [(72, 5)], [(73, 6)], [(74, 7), (71, 4)], [(75, 8)], [(67, 0), (68, 1), (69, 2), (70, 3), (71, 4), (72, 5), (73, 6), (74, 7), (75, 8), (76, 9)]] (relL [eqV _, eqV _, eqV _, eqV _, eqV _, eqV _, eqV _, eqV _, eqV _, eqV _]) (by kernel_rfl) (by kernel_rfl) ?_
  rotate_left 10
  iterate 4
   refine FlowR.step ?_ ?_
   ·intro V3 hV
    simp only [Dep, lQ]
    intro K hK
    go_simp
    refine hK _ _ ?_ (Below.refl _ _)
    simp only [lR]
    exact rfl
  refine FlowR.step ?_ ?_
  ·intro V3 hV
   simp only [Dep, lQ]
   rintro x70 ⟨V70, rfl, hb70⟩
   intro K hK
   obtain ⟨⟨i0, i1, i2, i3, i4, i5, i6⟩, hm, cs, cd, zd⟩ := KC.out _ (below_next HB2.out hV)
   go_simp
   refine hK _ _ ?_ (Below.refl _ _)
   simp only [lR]
   exact rfl
  refine FlowR.step ?_ ?_
  ·intro V3 hV
   simp only [Dep, lQ]
   rintro x69 ⟨V69, rfl, hb69⟩
   intro K hK
   go_simp
   refine hK _ _ ?_ (Below.refl _ _)
   simp only [lR]
   exact rfl
  refine FlowR.step ?_ ?_
  ·intro V3 hV
   simp only [Dep, lQ]
   rintro x72 ⟨V72, rfl, hb72⟩
   intro K hK
   go_simp
   refine hK _ _ ?_ (Below.refl _ _)
   simp only [lR]
   exact rfl
  refine FlowR.step ?_ ?_
  ·intro V3 hV
   simp only [Dep, lQ]
   rintro x73 ⟨V73, rfl, hb73⟩
   intro K hK
   go_simp
   refine hK _ _ ?_ (Below.refl _ _)
   simp only [lR]
   exact rfl
  refine FlowR.step ?_ ?_
  ·intro V3 hV
   simp only [Dep, lQ]
   rintro x74 ⟨V74, rfl, hb74⟩
   rintro x71 ⟨V71, rfl, hb71⟩
   intro K hK
   go_simp
   refine hK _ _ ?_ (Below.refl _ _)
   simp only [lR]
   exact rfl
  refine FlowR.step ?_ ?_
  ·intro V3 hV
   simp only [Dep, lQ]
   rintro x75 ⟨V75, rfl, hb75⟩
   intro K hK
   obtain ⟨⟨i0, i1, i2, i3, i4, i5, i6⟩, hm, cs, cd, zd⟩ := KC.out _ (below_next HB2.out hV)
   go_simp
   refine hK _ _ ?_ (Below.refl _ _)
   simp only [lR]
   exact rfl
  refine FlowR.last ?_
  intro V3 hV
  simp only [Dep, lQ]
  rintro x67 ⟨V67, rfl, hb67⟩
  rintro x68 ⟨V68, rfl, hb68⟩
  rintro x69 ⟨V69, rfl, hb69⟩
  rintro x70 ⟨V70, rfl, hb70⟩
  rintro x71 ⟨V71, rfl, hb71⟩
  rintro x72 ⟨V72, rfl, hb72⟩
  rintro x73 ⟨V73, rfl, hb73⟩
  rintro x74 ⟨V74, rfl, hb74⟩
  rintro x75 ⟨V75, rfl, hb75⟩
  rintro x76 ⟨V76, rfl, hb76⟩
  intro K hK
  go_simp
  go_at_call 71
  refine (HC.out V3 hV).mono ?_
  rintro e w9 ⟨rfl, h9⟩
  exact ⟨rfl, tried_err HR.out (h9.pre H.out (below_next HBel.out (below_next HB2.out hV)))⟩
set_option maxRecDepth 8000 in
set_option maxHeartbeats 4000000 in
theorem access_82o {E : Env} {V : World} {m : Mach} {sv ov : Value} (h : MachAt E V m sv ov) (op A : Int) (d s : Nat) (imm aux bank size : Int) (hd : d < 8) (hs : s < 8) (hi : OkU16 imm) (ha : OkU16 aux) (hb : 0 ≤ bank) (hop : (op = 82 ∧ A = addrA m s imm) ∨ (op = 86 ∧ A = imm) ∨ (op = 90 ∧ A = addrA m s imm)) (m' : Mach) (hx : storeM m A 2 (m.R d) = .ok m') : Calls Tryz.prog 43 #[.pointer (some ⟨E.B, 0, none⟩), .agg #[.int .i64 op, .int .i64 (d : Int), .int .i64 (s : Int), .int .u16 imm, .int .u16 aux, .int .i64 bank, .int .i64 size]] V (Tried E V m sv ov (some (storeM m A 2 (m.R d)))) := by
 obtain ⟨hI, HM, HBel, HLT⟩ := box26 h op d s imm aux bank size
 have HI := Lib.hid hI
 have H := Lib.hid h
 have HD := Lib.hid hd
 have HS := Lib.hid hs
 have HA := Lib.hid ha
 have HII := Lib.hid hi
 have HBK := Lib.hid hb
 have d0 : (0 : Int) ≤ (d : Int) := by omega
 have d1 : (d : Int) < 8 := by omega
 have e0 : (0 : Int) ≤ (s : Int) := by omega
 have e1 : (s : Int) < 8 := by omega
 have hw : IntKind.u16.wrap (m.R s + imm) = addrA m s imm := by rw [IntKind.wrap_u16]; rfl
 have HX := Lib.hid hx
 clear hx
 have HAO : Hid (OkU16 A) := Lib.hid (by rcases hop with ⟨rfl, rfl⟩ | ⟨rfl, rfl⟩ | ⟨rfl, rfl⟩ <;> first | exact addrA_ok _ _ _ | exact hi)
 obtain ⟨B, hB⟩ : ∃ B, addrA m s imm = B := ⟨_, rfl⟩
 rw [hB] at hw hop
 have HOP := Lib.hid hop
 clear hop hB
 clear h hI hd hs ha hi hb
 go_enter Tryz.func43, Tryz.ntmps43
 go_upto_region 1 with (fail)
 generalize V.alloc _ = W0 at *
 have KC := kcB HI.out HM.out HS.out HD.out
 clear HM HI
 refine wp_region_flow (S := fun W => Below W0.heap.size W0 W) (by kernel_rfl) (by kernel_rfl) (Below.drew (Below.refl _ _)) ?_
 iterate 15
  apply Flow.step
  ·intro V2 K hS hK
   obtain ⟨⟨i0, i1, i2, i3, i4, i5, i6⟩, hm, cs, cd, zd⟩ := KC.out V2 hS
   go_simp
   exact hK _ hS
  simp only [lQ]
 refine Flow.done ?_
 intro V2 hS
 have HB2 := Lib.hid hS
 clear hS
 obtain ⟨⟨i0, i1, i2, i3, i4, i5, i6⟩, _⟩ := KC.out V2 HB2.out
 clear i0 i1 i2 i3 i4 i5 i6
 rcases HOP.out with ⟨rfl, rfl⟩ | ⟨rfl, rfl⟩ | ⟨rfl, rfl⟩
 all_goals
  obtain ⟨⟨i0, i1, i2, i3, i4, i5, i6⟩, _⟩ := KC.out V2 HB2.out
  go_upto_region 13 with (fail)
  clear i0 i1 i2 i3 i4 i5 i6
  try clear hw
  have HC : Hid (∀ W, Below V2.heap.size V2 W → Calls Tryz.prog 71 #[.pointer (some ⟨E.B, 0, none⟩), .int .u16 A, .int .i64 2, .int .u16 (m.R d)] W fun e w' => e = .returned (.tuple #[]) ∧ Did E W m w' m') := Lib.hid fun W hW => by
   have HMW := (KC.out W (below_next HB2.out hW)).2.1
   refine (store_any HMW A (m.R d) HAO.out (H.out.ok.R d) 2 (by omega)).mono fun e w' q => ?_
   unfold Done at q
   rw [HX.out] at q
   exact q
  have HR : Hid (some (storeM m A 2 (m.R d)) = some (.ok m')) := Lib.hid (by rw [HX.out])
  refine' wp_region_flowR [[], [], [], [], [(70, 3)], [(69, 2)], [(72, 5)], [(73, 6)], [(74, 7), (71, 4)], [(75, 8)], [(67, 0), (68, 1), (69, 2), (70, 3), (71, 4), (72, 5), (73, 6), (74, 7), (75, 8), (76, 9)]] (relL [eqV _, eqV _, eqV _, eqV _, eqV _, eqV _, eqV _, eqV _, eqV _, eqV _]) (by kernel_rfl) (by kernel_rfl) ?_
  rotate_left 10
  iterate 4
   refine FlowR.step ?_ ?_
   ·intro V3 hV
    simp only [Dep, lQ]
    intro K hK
    go_simp
    refine hK _ _ ?_ (Below.refl _ _)
    simp only [lR]
    exact rfl
  refine FlowR.step ?_ ?_
  ·intro V3 hV
   simp only [Dep, lQ]
   rintro x70 ⟨V70, rfl, hb70⟩
   intro K hK
   obtain ⟨⟨i0, i1, i2, i3, i4, i5, i6⟩, hm, cs, cd, zd⟩ := KC.out _ (below_next HB2.out hV)
   go_simp
   refine hK _ _ ?_ (Below.refl _ _)
   simp only [lR]
   exact rfl
  refine FlowR.step ?_ ?_
  ·intro V3 hV
   simp only [Dep, lQ]
   rintro x69 ⟨V69, rfl, hb69⟩
   intro K hK
   go_simp
   refine hK _ _ ?_ (Below.refl _ _)
   simp only [lR]
   exact rfl
  refine FlowR.step ?_ ?_
  ·intro V3 hV
   simp only [Dep, lQ]
   rintro x72 ⟨V72, rfl, hb72⟩
   intro K hK
   go_simp
   refine hK _ _ ?_ (Below.refl _ _)
   simp only [lR]
   exact rfl
  refine FlowR.step ?_ ?_
  ·intro V3 hV
   simp only [Dep, lQ]
   rintro x73 ⟨V73, rfl, hb73⟩
   intro K hK
   go_simp
   refine hK _ _ ?_ (Below.refl _ _)
   simp only [lR]
   exact rfl
  refine FlowR.step ?_ ?_
  ·intro V3 hV
   simp only [Dep, lQ]
   rintro x74 ⟨V74, rfl, hb74⟩
   rintro x71 ⟨V71, rfl, hb71⟩
   intro K hK
   go_simp
   refine hK _ _ ?_ (Below.refl _ _)
   simp only [lR]
   exact rfl
  refine FlowR.step ?_ ?_
  ·intro V3 hV
   simp only [Dep, lQ]
   rintro x75 ⟨V75, rfl, hb75⟩
   intro K hK
   obtain ⟨⟨i0, i1, i2, i3, i4, i5, i6⟩, hm, cs, cd, zd⟩ := KC.out _ (below_next HB2.out hV)
   go_simp
   refine hK _ _ ?_ (Below.refl _ _)
   simp only [lR]
   exact rfl
  refine FlowR.last ?_
  intro V3 hV
  simp only [Dep, lQ]
  rintro x67 ⟨V67, rfl, hb67⟩
  rintro x68 ⟨V68, rfl, hb68⟩
  rintro x69 ⟨V69, rfl, hb69⟩
  rintro x70 ⟨V70, rfl, hb70⟩
  rintro x71 ⟨V71, rfl, hb71⟩
  rintro x72 ⟨V72, rfl, hb72⟩
  rintro x73 ⟨V73, rfl, hb73⟩
  rintro x74 ⟨V74, rfl, hb74⟩
  rintro x75 ⟨V75, rfl, hb75⟩
  rintro x76 ⟨V76, rfl, hb76⟩
  intro K hK
  go_simp
  go_at_call 71
  refine (HC.out V3 hV).mono ?_
  rintro e w9 ⟨rfl, h9⟩
  have H9 := Lib.hid (h9.pre (below_next HBel.out (below_next HB2.out hV)))
  clear h9
  refine hK _ _ ?_
  clear hK hV
  go_wp2_with fail
  exact bodyPost_ret (v := .bool true) (by simp [results, Tryz.results43, go_sem]) rfl (tried_ok HR.out H9.out)
set_option maxRecDepth 8000 in
set_option maxHeartbeats 4000000 in
theorem access_83e {E : Env} {V : World} {m : Mach} {sv ov : Value} (h : MachAt E V m sv ov) (op A : Int) (d s : Nat) (imm aux bank size : Int) (hd : d < 8) (hs : s < 8) (hi : OkU16 imm) (ha : OkU16 aux) (hb : 0 ≤ bank) (hop : (op = 83 ∧ A = addrA m s imm) ∨ (op = 87 ∧ A = imm) ∨ (op = 91 ∧ A = addrA m s imm)) (x : Int) (hx : storeM m A 1 (m.R d) = .error (2, x)) : Calls Tryz.prog 43 #[.pointer (some ⟨E.B, 0, none⟩), .agg #[.int .i64 op, .int .i64 (d : Int), .int .i64 (s : Int), .int .u16 imm, .int .u16 aux, .int .i64 bank, .int .i64 size]] V (Tried E V m sv ov (some (storeM m A 1 (m.R d)))) := by
 obtain ⟨hI, HM, HBel, HLT⟩ := box26 h op d s imm aux bank size
 have HI := Lib.hid hI
 have H := Lib.hid h
 have HD := Lib.hid hd
 have HS := Lib.hid hs
 have HA := Lib.hid ha
 have HII := Lib.hid hi
 have HBK := Lib.hid hb
 have d0 : (0 : Int) ≤ (d : Int) := by omega
 have d1 : (d : Int) < 8 := by omega
 have e0 : (0 : Int) ≤ (s : Int) := by omega
 have e1 : (s : Int) < 8 := by omega
 have hw : IntKind.u16.wrap (m.R s + imm) = addrA m s imm := by rw [IntKind.wrap_u16]; rfl
 have HX := Lib.hid hx
 clear hx
 have HAO : Hid (OkU16 A) := Lib.hid (by rcases hop with ⟨rfl, rfl⟩ | ⟨rfl, rfl⟩ | ⟨rfl, rfl⟩ <;> first | exact addrA_ok _ _ _ | exact hi)
 obtain ⟨B, hB⟩ : ∃ B, addrA m s imm = B := ⟨_, rfl⟩
 rw [hB] at hw hop
 have HOP := Lib.hid hop
 clear hop hB
 clear h hI hd hs ha hi hb
 go_enter Tryz.func43, Tryz.ntmps43
 go_upto_region 1 with (fail)
 generalize V.alloc _ = W0 at *
 have KC := kcB HI.out HM.out HS.out HD.out
 clear HM HI
 refine wp_region_flow (S := fun W => Below W0.heap.size W0 W) (by kernel_rfl) (by kernel_rfl) (Below.drew (Below.refl _ _)) ?_
 iterate 15
  apply Flow.step
  ·intro V2 K hS hK
   obtain ⟨⟨i0, i1, i2, i3, i4, i5, i6⟩, hm, cs, cd, zd⟩ := KC.out V2 hS
   go_simp
   exact hK _ hS
  simp only [lQ]
 refine Flow.done ?_
 intro V2 hS
 have HB2 := Lib.hid hS
 clear hS
 obtain ⟨⟨i0, i1, i2, i3, i4, i5, i6⟩, _⟩ := KC.out V2 HB2.out
 clear i0 i1 i2 i3 i4 i5 i6
 rcases HOP.out with ⟨rfl, rfl⟩ | ⟨rfl, rfl⟩ | ⟨rfl, rfl⟩
 all_goals
  obtain ⟨⟨i0, i1, i2, i3, i4, i5, i6⟩, _⟩ := KC.out V2 HB2.out
  go_upto_region 15 with (fail)
  clear i0 i1 i2 i3 i4 i5 i6
  try clear hw
  have HC : Hid (∀ W, Below V2.heap.size V2 W → Calls Tryz.prog 71 #[.pointer (some ⟨E.B, 0, none⟩), .int .u16 A, .int .i64 1, .int .u16 (m.R d)] W fun e w' => e = .panicked [{ v := .iface 65 (.agg #[.int .i64 2, .int .u16 x]), recovered := false }] ∧ Trapped E W m sv ov w') := Lib.hid fun W hW => by
   have HMW := (KC.out W (below_next HB2.out hW)).2.1
   refine (store_any HMW A (m.R d) HAO.out (H.out.ok.R d) 1 (by omega)).mono fun e w' q => ?_
   unfold Done at q
   rw [HX.out] at q
   exact q
  have HR : Hid (some (storeM m A 1 (m.R d)) = some (.error (2, x))) := Lib.hid (by rw [HX.out])
  refine' wp_region_flowR [[], [], [], [], [(83, 3)], [(82, 2)], [(85, 5)], [(86, 6)], [(87, 7), (84, 4)], [(88, 8)], [(80, 0), (81, 1), (82, 2), (83, 3), (84, 4), (85, 5), (86, 6), (87, 7), (88, 8), (89, 9)]] (relL [eqV _, eqV _, eqV _, eqV _, eqV _, eqV _, eqV _, eqV _, eqV _, eqV _]) (by kernel_rfl) (by kernel_rfl) ?_
  rotate_left 10
  iterate 4
   refine FlowR.step ?_ ?_
   ·intro V3 hV
    simp only [Dep, lQ]
    intro K hK
    go_simp
    refine hK _ _ ?_ (Below.refl _ _)
    simp only [lR]
    exact rfl
  refine FlowR.step ?_ ?_
  ·intro V3 hV
   simp only [Dep, lQ]
   rintro x83 ⟨V83, rfl, hb83⟩
   intro K hK
   obtain ⟨⟨i0, i1, i2, i3, i4, i5, i6⟩, hm, cs, cd, zd⟩ := KC.out _ (below_next HB2.out hV)
   go_simp
   refine hK _ _ ?_ (Below.refl _ _)
   simp only [lR]
   exact rfl
  refine FlowR.step ?_ ?_
  ·intro V3 hV
   simp only [Dep, lQ]
   rintro x82 ⟨V82, rfl, hb82⟩
   intro K hK
   go_simp
   refine hK _ _ ?_ (Below.refl _ _)
   simp only [lR]
   exact rfl
  refine FlowR.step ?_ ?_
  ·intro V3 hV
   simp only [Dep, lQ]
   rintro x85 ⟨V85, rfl, hb85⟩
   intro K hK
   go_simp
   refine hK _ _ ?_ (Below.refl _ _)
   simp only [lR]
   exact rfl
  refine FlowR.step ?_ ?_
  ·intro V3 hV
   simp only [Dep, lQ]
   rintro x86 ⟨V86, rfl, hb86⟩
   intro K hK
   go_simp
   refine hK _ _ ?_ (Below.refl _ _)
   simp only [lR]
   exact rfl
  refine FlowR.step ?_ ?_
  ·intro V3 hV
   simp only [Dep, lQ]
   rintro x87 ⟨V87, rfl, hb87⟩
   rintro x84 ⟨V84, rfl, hb84⟩
   intro K hK
   go_simp
   refine hK _ _ ?_ (Below.refl _ _)
   simp only [lR]
   exact rfl
  refine FlowR.step ?_ ?_
  ·intro V3 hV
   simp only [Dep, lQ]
   rintro x88 ⟨V88, rfl, hb88⟩
   intro K hK
   obtain ⟨⟨i0, i1, i2, i3, i4, i5, i6⟩, hm, cs, cd, zd⟩ := KC.out _ (below_next HB2.out hV)
   go_simp
   refine hK _ _ ?_ (Below.refl _ _)
   simp only [lR]
   exact rfl
  refine FlowR.last ?_
  intro V3 hV
  simp only [Dep, lQ]
  rintro x80 ⟨V80, rfl, hb80⟩
  rintro x81 ⟨V81, rfl, hb81⟩
  rintro x82 ⟨V82, rfl, hb82⟩
  rintro x83 ⟨V83, rfl, hb83⟩
  rintro x84 ⟨V84, rfl, hb84⟩
  rintro x85 ⟨V85, rfl, hb85⟩
  rintro x86 ⟨V86, rfl, hb86⟩
  rintro x87 ⟨V87, rfl, hb87⟩
  rintro x88 ⟨V88, rfl, hb88⟩
  rintro x89 ⟨V89, rfl, hb89⟩
  intro K hK
  go_simp
  go_at_call 71
  refine (HC.out V3 hV).mono ?_
  rintro e w9 ⟨rfl, h9⟩
  exact ⟨rfl, tried_err HR.out (h9.pre H.out (below_next HBel.out (below_next HB2.out hV)))⟩
set_option maxRecDepth 8000 in
set_option maxHeartbeats 4000000 in
theorem access_83o {E : Env} {V : World} {m : Mach} {sv ov : Value} (h : MachAt E V m sv ov) (op A : Int) (d s : Nat) (imm aux bank size : Int) (hd : d < 8) (hs : s < 8) (hi : OkU16 imm) (ha : OkU16 aux) (hb : 0 ≤ bank) (hop : (op = 83 ∧ A = addrA m s imm) ∨ (op = 87 ∧ A = imm) ∨ (op = 91 ∧ A = addrA m s imm)) (m' : Mach) (hx : storeM m A 1 (m.R d) = .ok m') : Calls Tryz.prog 43 #[.pointer (some ⟨E.B, 0, none⟩), .agg #[.int .i64 op, .int .i64 (d : Int), .int .i64 (s : Int), .int .u16 imm, .int .u16 aux, .int .i64 bank, .int .i64 size]] V (Tried E V m sv ov (some (storeM m A 1 (m.R d)))) := by
 obtain ⟨hI, HM, HBel, HLT⟩ := box26 h op d s imm aux bank size
 have HI := Lib.hid hI
 have H := Lib.hid h
 have HD := Lib.hid hd
 have HS := Lib.hid hs
 have HA := Lib.hid ha
 have HII := Lib.hid hi
 have HBK := Lib.hid hb
 have d0 : (0 : Int) ≤ (d : Int) := by omega
 have d1 : (d : Int) < 8 := by omega
 have e0 : (0 : Int) ≤ (s : Int) := by omega
 have e1 : (s : Int) < 8 := by omega
 have hw : IntKind.u16.wrap (m.R s + imm) = addrA m s imm := by rw [IntKind.wrap_u16]; rfl
 have HX := Lib.hid hx
 clear hx
 have HAO : Hid (OkU16 A) := Lib.hid (by rcases hop with ⟨rfl, rfl⟩ | ⟨rfl, rfl⟩ | ⟨rfl, rfl⟩ <;> first | exact addrA_ok _ _ _ | exact hi)
 obtain ⟨B, hB⟩ : ∃ B, addrA m s imm = B := ⟨_, rfl⟩
 rw [hB] at hw hop
 have HOP := Lib.hid hop
 clear hop hB
 clear h hI hd hs ha hi hb
 go_enter Tryz.func43, Tryz.ntmps43
 go_upto_region 1 with (fail)
 generalize V.alloc _ = W0 at *
 have KC := kcB HI.out HM.out HS.out HD.out
 clear HM HI
 refine wp_region_flow (S := fun W => Below W0.heap.size W0 W) (by kernel_rfl) (by kernel_rfl) (Below.drew (Below.refl _ _)) ?_
 iterate 15
  apply Flow.step
  ·intro V2 K hS hK
   obtain ⟨⟨i0, i1, i2, i3, i4, i5, i6⟩, hm, cs, cd, zd⟩ := KC.out V2 hS
   go_simp
   exact hK _ hS
  simp only [lQ]
 refine Flow.done ?_
 intro V2 hS
 have HB2 := Lib.hid hS
 clear hS
 obtain ⟨⟨i0, i1, i2, i3, i4, i5, i6⟩, _⟩ := KC.out V2 HB2.out
 clear i0 i1 i2 i3 i4 i5 i6
 rcases HOP.out with ⟨rfl, rfl⟩ | ⟨rfl, rfl⟩ | ⟨rfl, rfl⟩
 all_goals
  obtain ⟨⟨i0, i1, i2, i3, i4, i5, i6⟩, _⟩ := KC.out V2 HB2.out
  go_upto_region 15 with (fail)
  clear i0 i1 i2 i3 i4 i5 i6
  try clear hw
  have HC : Hid (∀ W, Below V2.heap.size V2 W → Calls Tryz.prog 71 #[.pointer (some ⟨E.B, 0, none⟩), .int .u16 A, .int .i64 1, .int .u16 (m.R d)] W fun e w' => e = .returned (.tuple #[]) ∧ Did E W m w' m') := Lib.hid fun W hW => by
   have HMW := (KC.out W (below_next HB2.out hW)).2.1
   refine (store_any HMW A (m.R d) HAO.out (H.out.ok.R d) 1 (by omega)).mono fun e w' q => ?_
   unfold Done at q
   rw [HX.out] at q
   exact q
  have HR : Hid (some (storeM m A 1 (m.R d)) = some (.ok m')) := Lib.hid (by rw [HX.out])
  refine' wp_region_flowR [[], [], [], [], [(83, 3)], [(82, 2)], [(85, 5)], [(86, 6)], [(87, 7), (84, 4)], [(88, 8)], [(80, 0), (81, 1), (82, 2), (83, 3), (84, 4), (85, 5), (86, 6), (87, 7), (88, 8), (89, 9)]] (relL [eqV _, eqV _, eqV _, eqV _, eqV _, eqV _, eqV _, eqV _, eqV _, eqV _]) (by kernel_rfl) (by kernel_rfl) ?_
  rotate_left 10
  iterate 4
   refine FlowR.step ?_ ?_
   ·intro V3 hV
    simp only [Dep, lQ]
    intro K hK
    go_simp
    refine hK _ _ ?_ (Below.refl _ _)
    simp only [lR]
    exact rfl
  refine FlowR.step ?_ ?_
  ·intro V3 hV
   simp only [Dep, lQ]
   rintro x83 ⟨V83, rfl, hb83⟩
   intro K hK
   obtain ⟨⟨i0, i1, i2, i3, i4, i5, i6⟩, hm, cs, cd, zd⟩ := KC.out _ (below_next HB2.out hV)
   go_simp
   refine hK _ _ ?_ (Below.refl _ _)
   simp only [lR]
   exact rfl
  refine FlowR.step ?_ ?_
  ·intro V3 hV
   simp only [Dep, lQ]
   rintro x82 ⟨V82, rfl, hb82⟩
   intro K hK
   go_simp
   refine hK _ _ ?_ (Below.refl _ _)
   simp only [lR]
   exact rfl
  refine FlowR.step ?_ ?_
  ·intro V3 hV
   simp only [Dep, lQ]
   rintro x85 ⟨V85, rfl, hb85⟩
   intro K hK
   go_simp
   refine hK _ _ ?_ (Below.refl _ _)
   simp only [lR]
   exact rfl
  refine FlowR.step ?_ ?_
  ·intro V3 hV
   simp only [Dep, lQ]
   rintro x86 ⟨V86, rfl, hb86⟩
   intro K hK
   go_simp
   refine hK _ _ ?_ (Below.refl _ _)
   simp only [lR]
   exact rfl
  refine FlowR.step ?_ ?_
  ·intro V3 hV
   simp only [Dep, lQ]
   rintro x87 ⟨V87, rfl, hb87⟩
   rintro x84 ⟨V84, rfl, hb84⟩
   intro K hK
   go_simp
   refine hK _ _ ?_ (Below.refl _ _)
   simp only [lR]
   exact rfl
  refine FlowR.step ?_ ?_
  ·intro V3 hV
   simp only [Dep, lQ]
   rintro x88 ⟨V88, rfl, hb88⟩
   intro K hK
   obtain ⟨⟨i0, i1, i2, i3, i4, i5, i6⟩, hm, cs, cd, zd⟩ := KC.out _ (below_next HB2.out hV)
   go_simp
   refine hK _ _ ?_ (Below.refl _ _)
   simp only [lR]
   exact rfl
  refine FlowR.last ?_
  intro V3 hV
  simp only [Dep, lQ]
  rintro x80 ⟨V80, rfl, hb80⟩
  rintro x81 ⟨V81, rfl, hb81⟩
  rintro x82 ⟨V82, rfl, hb82⟩
  rintro x83 ⟨V83, rfl, hb83⟩
  rintro x84 ⟨V84, rfl, hb84⟩
  rintro x85 ⟨V85, rfl, hb85⟩
  rintro x86 ⟨V86, rfl, hb86⟩
  rintro x87 ⟨V87, rfl, hb87⟩
  rintro x88 ⟨V88, rfl, hb88⟩
  rintro x89 ⟨V89, rfl, hb89⟩
  intro K hK
  go_simp
  go_at_call 71
  refine (HC.out V3 hV).mono ?_
  rintro e w9 ⟨rfl, h9⟩
  have H9 := Lib.hid (h9.pre (below_next HBel.out (below_next HB2.out hV)))
  clear h9
  refine hK _ _ ?_
  clear hK hV
  go_wp2_with fail
  exact bodyPost_ret (v := .bool true) (by simp [results, Tryz.results43, go_sem]) rfl (tried_ok HR.out H9.out)
set_option maxRecDepth 8000 in
set_option maxHeartbeats 4000000 in
theorem access_146e {E : Env} {V : World} {m : Mach} {sv ov : Value} (h : MachAt E V m sv ov) (op A : Int) (d s : Nat) (imm aux bank size : Int) (hd : d < 8) (hs : s < 8) (hi : OkU16 imm) (ha : OkU16 aux) (hb : 0 ≤ bank) (hop : (op = 146 ∧ A = addrA m s imm)) (x : Int) (hx : conBad E bank A 0 2 = some x) : Calls Tryz.prog 43 #[.pointer (some ⟨E.B, 0, none⟩), .agg #[.int .i64 op, .int .i64 (d : Int), .int .i64 (s : Int), .int .u16 imm, .int .u16 aux, .int .i64 bank, .int .i64 size]] V (Tried E V m sv ov (some (conM E m bank A 2 d))) := by
 obtain ⟨hI, HM, HBel, HLT⟩ := box26 h op d s imm aux bank size
 have HI := Lib.hid hI
 have H := Lib.hid h
 have HD := Lib.hid hd
 have HS := Lib.hid hs
 have HA := Lib.hid ha
 have HII := Lib.hid hi
 have HBK := Lib.hid hb
 have d0 : (0 : Int) ≤ (d : Int) := by omega
 have d1 : (d : Int) < 8 := by omega
 have e0 : (0 : Int) ≤ (s : Int) := by omega
 have e1 : (s : Int) < 8 := by omega
 have hw : IntKind.u16.wrap (m.R s + imm) = addrA m s imm := by rw [IntKind.wrap_u16]; rfl
 have HX := Lib.hid hx
 clear hx
 have HAO : Hid (OkU16 A) := Lib.hid (by rcases hop with ⟨rfl, rfl⟩ <;> first | exact addrA_ok _ _ _ | exact hi)
 obtain ⟨B, hB⟩ : ∃ B, addrA m s imm = B := ⟨_, rfl⟩
 rw [hB] at hw hop
 have HOP := Lib.hid hop
 clear hop hB
 clear h hI hd hs ha hi hb
 go_enter Tryz.func43, Tryz.ntmps43
 go_upto_region 1 with (fail)
 generalize V.alloc _ = W0 at *
 have KC := kcB HI.out HM.out HS.out HD.out
 clear HM HI
 refine wp_region_flow (S := fun W => Below W0.heap.size W0 W) (by kernel_rfl) (by kernel_rfl) (Below.drew (Below.refl _ _)) ?_
 iterate 15
  apply Flow.step
  ·intro V2 K hS hK
   obtain ⟨⟨i0, i1, i2, i3, i4, i5, i6⟩, hm, cs, cd, zd⟩ := KC.out V2 hS
   go_simp
   exact hK _ hS
  simp only [lQ]
 refine Flow.done ?_
 intro V2 hS
 have HB2 := Lib.hid hS
 clear hS
 obtain ⟨⟨i0, i1, i2, i3, i4, i5, i6⟩, _⟩ := KC.out V2 HB2.out
 clear i0 i1 i2 i3 i4 i5 i6
 rcases HOP.out with ⟨rfl, rfl⟩
 all_goals
  obtain ⟨⟨i0, i1, i2, i3, i4, i5, i6⟩, _⟩ := KC.out V2 HB2.out
  go_upto_region 19 with (fail)
  clear i0 i1 i2 i3 i4 i5 i6
  try clear hw
  have HC : Hid (∀ W, Below V2.heap.size V2 W → Calls Tryz.prog 72 #[.pointer (some ⟨E.B, 0, none⟩), .int .i64 bank, .int .u16 A, .int .i64 2] W fun e w' => e = .panicked [{ v := .iface 65 (.agg #[.int .i64 2, .int .u16 x]), recovered := false }] ∧ Below W.heap.size W w') := Lib.hid fun W hW => by
   have HMW := (KC.out W (below_next HB2.out hW)).2.1
   refine (constant_any HMW bank A HBK.out HAO.out 2 (by omega)).mono fun e w' q => ?_
   unfold ConPost at q
   rw [HX.out] at q
   exact q
  have HR : Hid (some (conM E m bank A 2 d) = some (.error (2, x))) := Lib.hid (by unfold conM; rw [HX.out])
  refine wp_region_flowW (S0 := fun W => Below V2.heap.size V2 W) (S1 := fun _ => False) (Z := fun c w' => Tried E V m sv ov (some (conM E m bank A 2 d)) (.panicked c) w') 7 (by kernel_rfl) (by kernel_rfl) (by kernel_rfl) (Below.drew (Below.refl _ _)) (fun chain b w' hd hz => ⟨hd, hz⟩) ?_
  iterate 7
   apply FlowW.step
   ·intro V3 K hS hK
    obtain hS := hS.resolve_right id
    obtain ⟨⟨i0, i1, i2, i3, i4, i5, i6⟩, hm, cs, cd, zd⟩ := KC.out _ (below_next HB2.out hS)
    go_simp
    exact hK
   simp only [lQ]
  refine FlowW.call (.int .u16 0) rfl ?_ ?_
  ·intro V3 K hS hK
   go_simp
   go_at_call 72
   refine (HC.out V3 hS).mono ?_
   rintro e w9 ⟨rfl, h9⟩
   exact ⟨_, rfl, tried_err HR.out (trapped_below H.out (below_next HBel.out (below_next (below_next HB2.out hS) h9)))⟩
  simp only [lQ]
  iterate 4
   apply FlowW.after
   ·intro V3 K hS hK
    go_simp
    exact hK
   simp only [lQ]
  refine FlowW.last ?_
  intro V3 K hS hK
  exact hS.elim
set_option maxRecDepth 8000 in
set_option maxHeartbeats 4000000 in
theorem access_146o {E : Env} {V : World} {m : Mach} {sv ov : Value} (h : MachAt E V m sv ov) (op A : Int) (d s : Nat) (imm aux bank size : Int) (hd : d < 8) (hs : s < 8) (hi : OkU16 imm) (ha : OkU16 aux) (hb : 0 ≤ bank) (hop : (op = 146 ∧ A = addrA m s imm)) (hx : conBad E bank A 0 2 = none) : Calls Tryz.prog 43 #[.pointer (some ⟨E.B, 0, none⟩), .agg #[.int .i64 op, .int .i64 (d : Int), .int .i64 (s : Int), .int .u16 imm, .int .u16 aux, .int .i64 bank, .int .i64 size]] V (Tried E V m sv ov (some (conM E m bank A 2 d))) := by
 obtain ⟨hI, HM, HBel, HLT⟩ := box26 h op d s imm aux bank size
 have HI := Lib.hid hI
 have H := Lib.hid h
 have HD := Lib.hid hd
 have HS := Lib.hid hs
 have HA := Lib.hid ha
 have HII := Lib.hid hi
 have HBK := Lib.hid hb
 have d0 : (0 : Int) ≤ (d : Int) := by omega
 have d1 : (d : Int) < 8 := by omega
 have e0 : (0 : Int) ≤ (s : Int) := by omega
 have e1 : (s : Int) < 8 := by omega
 have hw : IntKind.u16.wrap (m.R s + imm) = addrA m s imm := by rw [IntKind.wrap_u16]; rfl
 have HX := Lib.hid hx
 clear hx
 have HAO : Hid (OkU16 A) := Lib.hid (by rcases hop with ⟨rfl, rfl⟩ <;> first | exact addrA_ok _ _ _ | exact hi)
 obtain ⟨B, hB⟩ : ∃ B, addrA m s imm = B := ⟨_, rfl⟩
 rw [hB] at hw hop
 have HOP := Lib.hid hop
 clear hop hB
 clear h hI hd hs ha hi hb
 go_enter Tryz.func43, Tryz.ntmps43
 go_upto_region 1 with (fail)
 generalize V.alloc _ = W0 at *
 have KC := kcB HI.out HM.out HS.out HD.out
 clear HM HI
 refine wp_region_flow (S := fun W => Below W0.heap.size W0 W) (by kernel_rfl) (by kernel_rfl) (Below.drew (Below.refl _ _)) ?_
 iterate 15
  apply Flow.step
  ·intro V2 K hS hK
   obtain ⟨⟨i0, i1, i2, i3, i4, i5, i6⟩, hm, cs, cd, zd⟩ := KC.out V2 hS
   go_simp
   exact hK _ hS
  simp only [lQ]
 refine Flow.done ?_
 intro V2 hS
 have HB2 := Lib.hid hS
 clear hS
 obtain ⟨⟨i0, i1, i2, i3, i4, i5, i6⟩, _⟩ := KC.out V2 HB2.out
 clear i0 i1 i2 i3 i4 i5 i6
 rcases HOP.out with ⟨rfl, rfl⟩
 all_goals
  obtain ⟨⟨i0, i1, i2, i3, i4, i5, i6⟩, _⟩ := KC.out V2 HB2.out
  go_upto_region 19 with (fail)
  clear i0 i1 i2 i3 i4 i5 i6
  try clear hw
  have HC : Hid (∀ W, Below V2.heap.size V2 W → Calls Tryz.prog 72 #[.pointer (some ⟨E.B, 0, none⟩), .int .i64 bank, .int .u16 A, .int .i64 2] W fun e w' => e = .returned (.int .u16 (rdRom E bank A 2)) ∧ Below W.heap.size W w') := Lib.hid fun W hW => by
   have HMW := (KC.out W (below_next HB2.out hW)).2.1
   refine (constant_any HMW bank A HBK.out HAO.out 2 (by omega)).mono fun e w' q => ?_
   unfold ConPost at q
   rw [HX.out] at q
   exact q
  have HOK : Hid (OkU16 (rdRom E bank A 2)) := Lib.hid (rdRom_ok _ _ _ _)
  have HR : Hid (some (conM E m bank A 2 d) = some (.ok (setD m d (rdRom E bank A 2)))) := Lib.hid (by unfold conM; rw [HX.out])
  generalize rdRom E bank A 2 = y at *
  refine wp_region_flowW (S0 := fun W => Below V2.heap.size V2 W) (S1 := fun W => Below V2.heap.size V2 W) (Z := fun _ _ => False) 7 (by kernel_rfl) (by kernel_rfl) (by kernel_rfl) (Below.drew (Below.refl _ _)) (fun chain b w' hd hz => hz.elim) ?_
  iterate 7
   apply FlowW.step
   ·intro V3 K hS hK
    obtain hS := hS.elim id id
    obtain ⟨⟨i0, i1, i2, i3, i4, i5, i6⟩, hm, cs, cd, zd⟩ := KC.out _ (below_next HB2.out hS)
    go_simp
    exact hK
   simp only [lQ]
  refine FlowW.call ?_ rfl ?_ ?_
  rotate_left
  ·intro V3 K hS hK
   go_simp
   go_at_call 72
   refine (HC.out V3 hS).mono ?_
   rintro e w9 ⟨rfl, h9⟩
   exact hK _ (below_next hS h9)
  simp only [lQ]
  iterate 4
   apply FlowW.after
   ·intro V3 K hS hK
    go_simp
    exact hK
   simp only [lQ]
  refine FlowW.last ?_
  intro V3 K hS hK
  obtain ⟨⟨i0, i1, i2, i3, i4, i5, i6⟩, hm, cs, cd, zd⟩ := KC.out _ (below_next HB2.out hS)
  go_simp
  refine hK _ _ ?_
  have HM3 := Lib.hid hm
  have HB3 := Lib.hid (below_next HBel.out (below_next HB2.out hS))
  clear i0 i1 i2 i3 i4 i5 i6 hm cs cd zd hS hK
  go_wp2_with fail
  exact bodyPost_ret (v := .bool true) (by simp [results, Tryz.results43, go_sem]) rfl (tried_ok HR.out ⟨⟨_, _, HM3.out.setReg d HD.out HOK.out⟩, (Keeps.of_below HB3.out).trans (HM3.out.putK (7 + d) _)⟩)
set_option maxRecDepth 8000 in
set_option maxHeartbeats 4000000 in
theorem access_147e {E : Env} {V : World} {m : Mach} {sv ov : Value} (h : MachAt E V m sv ov) (op A : Int) (d s : Nat) (imm aux bank size : Int) (hd : d < 8) (hs : s < 8) (hi : OkU16 imm) (ha : OkU16 aux) (hb : 0 ≤ bank) (hop : (op = 147 ∧ A = addrA m s imm)) (x : Int) (hx : conBad E bank A 0 1 = some x) : Calls Tryz.prog 43 #[.pointer (some ⟨E.B, 0, none⟩), .agg #[.int .i64 op, .int .i64 (d : Int), .int .i64 (s : Int), .int .u16 imm, .int .u16 aux, .int .i64 bank, .int .i64 size]] V (Tried E V m sv ov (some (conM E m bank A 1 d))) := by
 obtain ⟨hI, HM, HBel, HLT⟩ := box26 h op d s imm aux bank size
 have HI := Lib.hid hI
 have H := Lib.hid h
 have HD := Lib.hid hd
 have HS := Lib.hid hs
 have HA := Lib.hid ha
 have HII := Lib.hid hi
 have HBK := Lib.hid hb
 have d0 : (0 : Int) ≤ (d : Int) := by omega
 have d1 : (d : Int) < 8 := by omega
 have e0 : (0 : Int) ≤ (s : Int) := by omega
 have e1 : (s : Int) < 8 := by omega
 have hw : IntKind.u16.wrap (m.R s + imm) = addrA m s imm := by rw [IntKind.wrap_u16]; rfl
 have HX := Lib.hid hx
 clear hx
 have HAO : Hid (OkU16 A) := Lib.hid (by rcases hop with ⟨rfl, rfl⟩ <;> first | exact addrA_ok _ _ _ | exact hi)
 obtain ⟨B, hB⟩ : ∃ B, addrA m s imm = B := ⟨_, rfl⟩
 rw [hB] at hw hop
 have HOP := Lib.hid hop
 clear hop hB
 clear h hI hd hs ha hi hb
 go_enter Tryz.func43, Tryz.ntmps43
 go_upto_region 1 with (fail)
 generalize V.alloc _ = W0 at *
 have KC := kcB HI.out HM.out HS.out HD.out
 clear HM HI
 refine wp_region_flow (S := fun W => Below W0.heap.size W0 W) (by kernel_rfl) (by kernel_rfl) (Below.drew (Below.refl _ _)) ?_
 iterate 15
  apply Flow.step
  ·intro V2 K hS hK
   obtain ⟨⟨i0, i1, i2, i3, i4, i5, i6⟩, hm, cs, cd, zd⟩ := KC.out V2 hS
   go_simp
   exact hK _ hS
  simp only [lQ]
 refine Flow.done ?_
 intro V2 hS
 have HB2 := Lib.hid hS
 clear hS
 obtain ⟨⟨i0, i1, i2, i3, i4, i5, i6⟩, _⟩ := KC.out V2 HB2.out
 clear i0 i1 i2 i3 i4 i5 i6
 rcases HOP.out with ⟨rfl, rfl⟩
 all_goals
  obtain ⟨⟨i0, i1, i2, i3, i4, i5, i6⟩, _⟩ := KC.out V2 HB2.out
  go_upto_region 21 with (fail)
  clear i0 i1 i2 i3 i4 i5 i6
  try clear hw
  have HC : Hid (∀ W, Below V2.heap.size V2 W → Calls Tryz.prog 72 #[.pointer (some ⟨E.B, 0, none⟩), .int .i64 bank, .int .u16 A, .int .i64 1] W fun e w' => e = .panicked [{ v := .iface 65 (.agg #[.int .i64 2, .int .u16 x]), recovered := false }] ∧ Below W.heap.size W w') := Lib.hid fun W hW => by
   have HMW := (KC.out W (below_next HB2.out hW)).2.1
   refine (constant_any HMW bank A HBK.out HAO.out 1 (by omega)).mono fun e w' q => ?_
   unfold ConPost at q
   rw [HX.out] at q
   exact q
  have HR : Hid (some (conM E m bank A 1 d) = some (.error (2, x))) := Lib.hid (by unfold conM; rw [HX.out])
  refine wp_region_flowW (S0 := fun W => Below V2.heap.size V2 W) (S1 := fun _ => False) (Z := fun c w' => Tried E V m sv ov (some (conM E m bank A 1 d)) (.panicked c) w') 7 (by kernel_rfl) (by kernel_rfl) (by kernel_rfl) (Below.drew (Below.refl _ _)) (fun chain b w' hd hz => ⟨hd, hz⟩) ?_
  iterate 7
   apply FlowW.step
   ·intro V3 K hS hK
    obtain hS := hS.resolve_right id
    obtain ⟨⟨i0, i1, i2, i3, i4, i5, i6⟩, hm, cs, cd, zd⟩ := KC.out _ (below_next HB2.out hS)
    go_simp
    exact hK
   simp only [lQ]
  refine FlowW.call (.int .u16 0) rfl ?_ ?_
  ·intro V3 K hS hK
   go_simp
   go_at_call 72
   refine (HC.out V3 hS).mono ?_
   rintro e w9 ⟨rfl, h9⟩
   exact ⟨_, rfl, tried_err HR.out (trapped_below H.out (below_next HBel.out (below_next (below_next HB2.out hS) h9)))⟩
  simp only [lQ]
  iterate 4
   apply FlowW.after
   ·intro V3 K hS hK
    go_simp
    exact hK
   simp only [lQ]
  refine FlowW.last ?_
  intro V3 K hS hK
  exact hS.elim
set_option maxRecDepth 8000 in
set_option maxHeartbeats 4000000 in
theorem access_147o {E : Env} {V : World} {m : Mach} {sv ov : Value} (h : MachAt E V m sv ov) (op A : Int) (d s : Nat) (imm aux bank size : Int) (hd : d < 8) (hs : s < 8) (hi : OkU16 imm) (ha : OkU16 aux) (hb : 0 ≤ bank) (hop : (op = 147 ∧ A = addrA m s imm)) (hx : conBad E bank A 0 1 = none) : Calls Tryz.prog 43 #[.pointer (some ⟨E.B, 0, none⟩), .agg #[.int .i64 op, .int .i64 (d : Int), .int .i64 (s : Int), .int .u16 imm, .int .u16 aux, .int .i64 bank, .int .i64 size]] V (Tried E V m sv ov (some (conM E m bank A 1 d))) := by
 obtain ⟨hI, HM, HBel, HLT⟩ := box26 h op d s imm aux bank size
 have HI := Lib.hid hI
 have H := Lib.hid h
 have HD := Lib.hid hd
 have HS := Lib.hid hs
 have HA := Lib.hid ha
 have HII := Lib.hid hi
 have HBK := Lib.hid hb
 have d0 : (0 : Int) ≤ (d : Int) := by omega
 have d1 : (d : Int) < 8 := by omega
 have e0 : (0 : Int) ≤ (s : Int) := by omega
 have e1 : (s : Int) < 8 := by omega
 have hw : IntKind.u16.wrap (m.R s + imm) = addrA m s imm := by rw [IntKind.wrap_u16]; rfl
 have HX := Lib.hid hx
 clear hx
 have HAO : Hid (OkU16 A) := Lib.hid (by rcases hop with ⟨rfl, rfl⟩ <;> first | exact addrA_ok _ _ _ | exact hi)
 obtain ⟨B, hB⟩ : ∃ B, addrA m s imm = B := ⟨_, rfl⟩
 rw [hB] at hw hop
 have HOP := Lib.hid hop
 clear hop hB
 clear h hI hd hs ha hi hb
 go_enter Tryz.func43, Tryz.ntmps43
 go_upto_region 1 with (fail)
 generalize V.alloc _ = W0 at *
 have KC := kcB HI.out HM.out HS.out HD.out
 clear HM HI
 refine wp_region_flow (S := fun W => Below W0.heap.size W0 W) (by kernel_rfl) (by kernel_rfl) (Below.drew (Below.refl _ _)) ?_
 iterate 15
  apply Flow.step
  ·intro V2 K hS hK
   obtain ⟨⟨i0, i1, i2, i3, i4, i5, i6⟩, hm, cs, cd, zd⟩ := KC.out V2 hS
   go_simp
   exact hK _ hS
  simp only [lQ]
 refine Flow.done ?_
 intro V2 hS
 have HB2 := Lib.hid hS
 clear hS
 obtain ⟨⟨i0, i1, i2, i3, i4, i5, i6⟩, _⟩ := KC.out V2 HB2.out
 clear i0 i1 i2 i3 i4 i5 i6
 rcases HOP.out with ⟨rfl, rfl⟩
 all_goals
  obtain ⟨⟨i0, i1, i2, i3, i4, i5, i6⟩, _⟩ := KC.out V2 HB2.out
  go_upto_region 21 with (fail)
  clear i0 i1 i2 i3 i4 i5 i6
  try clear hw
  have HC : Hid (∀ W, Below V2.heap.size V2 W → Calls Tryz.prog 72 #[.pointer (some ⟨E.B, 0, none⟩), .int .i64 bank, .int .u16 A, .int .i64 1] W fun e w' => e = .returned (.int .u16 (rdRom E bank A 1)) ∧ Below W.heap.size W w') := Lib.hid fun W hW => by
   have HMW := (KC.out W (below_next HB2.out hW)).2.1
   refine (constant_any HMW bank A HBK.out HAO.out 1 (by omega)).mono fun e w' q => ?_
   unfold ConPost at q
   rw [HX.out] at q
   exact q
  have HOK : Hid (OkU16 (rdRom E bank A 1)) := Lib.hid (rdRom_ok _ _ _ _)
  have HR : Hid (some (conM E m bank A 1 d) = some (.ok (setD m d (rdRom E bank A 1)))) := Lib.hid (by unfold conM; rw [HX.out])
  generalize rdRom E bank A 1 = y at *
  refine wp_region_flowW (S0 := fun W => Below V2.heap.size V2 W) (S1 := fun W => Below V2.heap.size V2 W) (Z := fun _ _ => False) 7 (by kernel_rfl) (by kernel_rfl) (by kernel_rfl) (Below.drew (Below.refl _ _)) (fun chain b w' hd hz => hz.elim) ?_
  iterate 7
   apply FlowW.step
   ·intro V3 K hS hK
    obtain hS := hS.elim id id
    obtain ⟨⟨i0, i1, i2, i3, i4, i5, i6⟩, hm, cs, cd, zd⟩ := KC.out _ (below_next HB2.out hS)
    go_simp
    exact hK
   simp only [lQ]
  refine FlowW.call ?_ rfl ?_ ?_
  rotate_left
  ·intro V3 K hS hK
   go_simp
   go_at_call 72
   refine (HC.out V3 hS).mono ?_
   rintro e w9 ⟨rfl, h9⟩
   exact hK _ (below_next hS h9)
  simp only [lQ]
  iterate 4
   apply FlowW.after
   ·intro V3 K hS hK
    go_simp
    exact hK
   simp only [lQ]
  refine FlowW.last ?_
  intro V3 K hS hK
  obtain ⟨⟨i0, i1, i2, i3, i4, i5, i6⟩, hm, cs, cd, zd⟩ := KC.out _ (below_next HB2.out hS)
  go_simp
  refine hK _ _ ?_
  have HM3 := Lib.hid hm
  have HB3 := Lib.hid (below_next HBel.out (below_next HB2.out hS))
  clear i0 i1 i2 i3 i4 i5 i6 hm cs cd zd hS hK
  go_wp2_with fail
  exact bodyPost_ret (v := .bool true) (by simp [results, Tryz.results43, go_sem]) rfl (tried_ok HR.out ⟨⟨_, _, HM3.out.setReg d HD.out HOK.out⟩, (Keeps.of_below HB3.out).trans (HM3.out.putK (7 + d) _)⟩)
set_option maxRecDepth 8000 in
set_option maxHeartbeats 4000000 in
theorem access_150e {E : Env} {V : World} {m : Mach} {sv ov : Value} (h : MachAt E V m sv ov) (op A : Int) (d s : Nat) (imm aux bank size : Int) (hd : d < 8) (hs : s < 8) (hi : OkU16 imm) (ha : OkU16 aux) (hb : 0 ≤ bank) (hop : (op = 150 ∧ A = addrA m s imm)) (x : Int) (hx : storeM m A 2 aux = .error (2, x)) : Calls Tryz.prog 43 #[.pointer (some ⟨E.B, 0, none⟩), .agg #[.int .i64 op, .int .i64 (d : Int), .int .i64 (s : Int), .int .u16 imm, .int .u16 aux, .int .i64 bank, .int .i64 size]] V (Tried E V m sv ov (some (storeM m A 2 aux))) := by
 obtain ⟨hI, HM, HBel, HLT⟩ := box26 h op d s imm aux bank size
 have HI := Lib.hid hI
 have H := Lib.hid h
 have HD := Lib.hid hd
 have HS := Lib.hid hs
 have HA := Lib.hid ha
 have HII := Lib.hid hi
 have HBK := Lib.hid hb
 have d0 : (0 : Int) ≤ (d : Int) := by omega
 have d1 : (d : Int) < 8 := by omega
 have e0 : (0 : Int) ≤ (s : Int) := by omega
 have e1 : (s : Int) < 8 := by omega
 have hw : IntKind.u16.wrap (m.R s + imm) = addrA m s imm := by rw [IntKind.wrap_u16]; rfl
 have HX := Lib.hid hx
 clear hx
 have HAO : Hid (OkU16 A) := Lib.hid (by rcases hop with ⟨rfl, rfl⟩ <;> first | exact addrA_ok _ _ _ | exact hi)
 obtain ⟨B, hB⟩ : ∃ B, addrA m s imm = B := ⟨_, rfl⟩
 rw [hB] at hw hop
 have HOP := Lib.hid hop
 clear hop hB
 clear h hI hd hs ha hi hb
 go_enter Tryz.func43, Tryz.ntmps43
 go_upto_region 1 with (fail)
 generalize V.alloc _ = W0 at *
 have KC := kcB HI.out HM.out HS.out HD.out
 clear HM HI
 refine wp_region_flow (S := fun W => Below W0.heap.size W0 W) (by kernel_rfl) (by kernel_rfl) (Below.drew (Below.refl _ _)) ?_
 iterate 15
  apply Flow.step
  ·intro V2 K hS hK
   obtain ⟨⟨i0, i1, i2, i3, i4, i5, i6⟩, hm, cs, cd, zd⟩ := KC.out V2 hS
   go_simp
   exact hK _ hS
  simp only [lQ]
 refine Flow.done ?_
 intro V2 hS
 have HB2 := Lib.hid hS
 clear hS
 obtain ⟨⟨i0, i1, i2, i3, i4, i5, i6⟩, _⟩ := KC.out V2 HB2.out
 clear i0 i1 i2 i3 i4 i5 i6
 rcases HOP.out with ⟨rfl, rfl⟩
 all_goals
  obtain ⟨⟨i0, i1, i2, i3, i4, i5, i6⟩, _⟩ := KC.out V2 HB2.out
  go_upto_region 17 with (fail)
  clear i0 i1 i2 i3 i4 i5 i6
  try clear hw
  have HC : Hid (∀ W, Below V2.heap.size V2 W → Calls Tryz.prog 71 #[.pointer (some ⟨E.B, 0, none⟩), .int .u16 A, .int .i64 2, .int .u16 aux] W fun e w' => e = .panicked [{ v := .iface 65 (.agg #[.int .i64 2, .int .u16 x]), recovered := false }] ∧ Trapped E W m sv ov w') := Lib.hid fun W hW => by
   have HMW := (KC.out W (below_next HB2.out hW)).2.1
   refine (store_any HMW A aux HAO.out HA.out 2 (by omega)).mono fun e w' q => ?_
   unfold Done at q
   rw [HX.out] at q
   exact q
  have HR : Hid (some (storeM m A 2 aux) = some (.error (2, x))) := Lib.hid (by rw [HX.out])
  obtain ⟨⟨i0, i1, i2, i3, i4, i5, i6⟩, _⟩ := KC.out V2 HB2.out
  go_wp2_with fail
  refine (HC.out V2 (Below.refl _ _)).mono ?_
  rintro e w9 ⟨rfl, h9⟩
  exact ⟨rfl, tried_err HR.out (h9.pre H.out (below_next HBel.out HB2.out))⟩
set_option maxRecDepth 8000 in
set_option maxHeartbeats 4000000 in
theorem access_150o {E : Env} {V : World} {m : Mach} {sv ov : Value} (h : MachAt E V m sv ov) (op A : Int) (d s : Nat) (imm aux bank size : Int) (hd : d < 8) (hs : s < 8) (hi : OkU16 imm) (ha : OkU16 aux) (hb : 0 ≤ bank) (hop : (op = 150 ∧ A = addrA m s imm)) (m' : Mach) (hx : storeM m A 2 aux = .ok m') : Calls Tryz.prog 43 #[.pointer (some ⟨E.B, 0, none⟩), .agg #[.int .i64 op, .int .i64 (d : Int), .int .i64 (s : Int), .int .u16 imm, .int .u16 aux, .int .i64 bank, .int .i64 size]] V (Tried E V m sv ov (some (storeM m A 2 aux))) := by
 obtain ⟨hI, HM, HBel, HLT⟩ := box26 h op d s imm aux bank size
 have HI := Lib.hid hI
 have H := Lib.hid h
 have HD := Lib.hid hd
 have HS := Lib.hid hs
 have HA := Lib.hid ha
 have HII := Lib.hid hi
 have HBK := Lib.hid hb
 have d0 : (0 : Int) ≤ (d : Int) := by omega
 have d1 : (d : Int) < 8 := by omega
 have e0 : (0 : Int) ≤ (s : Int) := by omega
 have e1 : (s : Int) < 8 := by omega
 have hw : IntKind.u16.wrap (m.R s + imm) = addrA m s imm := by rw [IntKind.wrap_u16]; rfl
 have HX := Lib.hid hx
 clear hx
 have HAO : Hid (OkU16 A) := Lib.hid (by rcases hop with ⟨rfl, rfl⟩ <;> first | exact addrA_ok _ _ _ | exact hi)
 obtain ⟨B, hB⟩ : ∃ B, addrA m s imm = B := ⟨_, rfl⟩
 rw [hB] at hw hop
 have HOP := Lib.hid hop
 clear hop hB
 clear h hI hd hs ha hi hb
 go_enter Tryz.func43, Tryz.ntmps43
 go_upto_region 1 with (fail)
 generalize V.alloc _ = W0 at *
 have KC := kcB HI.out HM.out HS.out HD.out
 clear HM HI
 refine wp_region_flow (S := fun W => Below W0.heap.size W0 W) (by kernel_rfl) (by kernel_rfl) (Below.drew (Below.refl _ _)) ?_
 iterate 15
  apply Flow.step
  ·intro V2 K hS hK
   obtain ⟨⟨i0, i1, i2, i3, i4, i5, i6⟩, hm, cs, cd, zd⟩ := KC.out V2 hS
   go_simp
   exact hK _ hS
  simp only [lQ]
 refine Flow.done ?_
 intro V2 hS
 have HB2 := Lib.hid hS
 clear hS
 obtain ⟨⟨i0, i1, i2, i3, i4, i5, i6⟩, _⟩ := KC.out V2 HB2.out
 clear i0 i1 i2 i3 i4 i5 i6
 rcases HOP.out with ⟨rfl, rfl⟩
 all_goals
  obtain ⟨⟨i0, i1, i2, i3, i4, i5, i6⟩, _⟩ := KC.out V2 HB2.out
  go_upto_region 17 with (fail)
  clear i0 i1 i2 i3 i4 i5 i6
  try clear hw
  have HC : Hid (∀ W, Below V2.heap.size V2 W → Calls Tryz.prog 71 #[.pointer (some ⟨E.B, 0, none⟩), .int .u16 A, .int .i64 2, .int .u16 aux] W fun e w' => e = .returned (.tuple #[]) ∧ Did E W m w' m') := Lib.hid fun W hW => by
   have HMW := (KC.out W (below_next HB2.out hW)).2.1
   refine (store_any HMW A aux HAO.out HA.out 2 (by omega)).mono fun e w' q => ?_
   unfold Done at q
   rw [HX.out] at q
   exact q
  have HR : Hid (some (storeM m A 2 aux) = some (.ok m')) := Lib.hid (by rw [HX.out])
  obtain ⟨⟨i0, i1, i2, i3, i4, i5, i6⟩, _⟩ := KC.out V2 HB2.out
  go_wp2_with fail
  refine (HC.out V2 (Below.refl _ _)).mono ?_
  rintro e w9 ⟨rfl, h9⟩
  have H9 := Lib.hid (h9.pre (below_next HBel.out HB2.out))
  clear h9
  go_wp2_with fail
  exact bodyPost_ret (v := .bool true) (by simp [results, Tryz.results43, go_sem]) rfl (tried_ok HR.out H9.out)
def accessM (E : Env) (m : Mach) (i : InsI) (d s : Nat) : Option (Except (Int × Int) Mach) :=
 if i.op = 80 then some (loadM m (addrA m s i.imm) 2 d)
 else if i.op = 81 then some (loadM m (addrA m s i.imm) 1 d)
 else if i.op = 82 then some (storeM m (addrA m s i.imm) 2 (m.R d))
 else if i.op = 83 then some (storeM m (addrA m s i.imm) 1 (m.R d))
 else if i.op = 84 then some (loadM m i.imm 2 d)
 else if i.op = 85 then some (loadM m i.imm 1 d)
 else if i.op = 86 then some (storeM m i.imm 2 (m.R d))
 else if i.op = 87 then some (storeM m i.imm 1 (m.R d))
 else if i.op = 88 then some (loadM m (addrA m s i.imm) 2 d)
 else if i.op = 89 then some (loadM m (addrA m s i.imm) 1 d)
 else if i.op = 90 then some (storeM m (addrA m s i.imm) 2 (m.R d))
 else if i.op = 91 then some (storeM m (addrA m s i.imm) 1 (m.R d))
 else if i.op = 146 then some (conM E m i.bank (addrA m s i.imm) 2 d)
 else if i.op = 147 then some (conM E m i.bank (addrA m s i.imm) 1 d)
 else if i.op = 150 then some (storeM m (addrA m s i.imm) 2 i.aux)
 else none
theorem storeM_cases (m : Mach) (a : Int) (n : Nat) (v : Int) : (∃ x, storeM m a n v = .error (2, x)) ∨ ∃ m', storeM m a n v = .ok m' := by
 unfold storeM
 cases ramBad a 0 n with
 | some x => exact .inl ⟨x, rfl⟩
 | none => exact .inr ⟨_, rfl⟩
set_option maxRecDepth 8000 in
set_option maxHeartbeats 4000000 in
theorem access_lo {E : Env} {V : World} {m : Mach} {sv ov : Value} (h : MachAt E V m sv ov) (op : Int) (hop : op < 80) (d s : Nat) (imm aux bank size : Int) (hd : d < 8) (hs : s < 8) (hi : OkU16 imm) (ha : OkU16 aux) (hb : 0 ≤ bank) : Calls Tryz.prog 43 #[.pointer (some ⟨E.B, 0, none⟩), .agg #[.int .i64 op, .int .i64 (d : Int), .int .i64 (s : Int), .int .u16 imm, .int .u16 aux, .int .i64 bank, .int .i64 size]] V (Tried E V m sv ov (none)) := by
 obtain ⟨hI, HM, HBel, HLT⟩ := box26 h op d s imm aux bank size
 have HI := Lib.hid hI
 have H := Lib.hid h
 have HD := Lib.hid hd
 have HS := Lib.hid hs
 have HA := Lib.hid ha
 have HII := Lib.hid hi
 have HBK := Lib.hid hb
 have d0 : (0 : Int) ≤ (d : Int) := by omega
 have d1 : (d : Int) < 8 := by omega
 have e0 : (0 : Int) ≤ (s : Int) := by omega
 have e1 : (s : Int) < 8 := by omega
 have hw : IntKind.u16.wrap (m.R s + imm) = addrA m s imm := by rw [IntKind.wrap_u16]; rfl
 clear h hI hd hs ha hi hb
 have t0 : decide (84 ≤ op) = false := decide_eq_false (by omega)
 have t1 : decide (88 ≤ op) = false := decide_eq_false (by omega)
 have n80 : (op == 80) = false := by rw [beq_eq_false_iff_ne]; omega
 have n81 : (op == 81) = false := by rw [beq_eq_false_iff_ne]; omega
 have n82 : (op == 82) = false := by rw [beq_eq_false_iff_ne]; omega
 have n83 : (op == 83) = false := by rw [beq_eq_false_iff_ne]; omega
 have n150 : (op == 150) = false := by rw [beq_eq_false_iff_ne]; omega
 have n146 : (op == 146) = false := by rw [beq_eq_false_iff_ne]; omega
 have n147 : (op == 147) = false := by rw [beq_eq_false_iff_ne]; omega
 clear hop
 go_enter Tryz.func43, Tryz.ntmps43
 go_upto_region 1 with (fail)
 generalize V.alloc _ = W0 at *
 have KC := kcB HI.out HM.out HS.out HD.out
 clear HM HI
 refine wp_region_flow (S := fun W => Below W0.heap.size W0 W) (by kernel_rfl) (by kernel_rfl) (Below.drew (Below.refl _ _)) ?_
 iterate 15
  apply Flow.step
  ·intro V2 K hS hK
   obtain ⟨⟨i0, i1, i2, i3, i4, i5, i6⟩, hm, cs, cd, zd⟩ := KC.out V2 hS
   go_simp
   exact hK _ hS
  simp only [lQ]
 refine Flow.done ?_
 intro V2 hS
 have HB2 := Lib.hid hS
 clear hS
 obtain ⟨⟨i0, i1, i2, i3, i4, i5, i6⟩, _⟩ := KC.out V2 HB2.out
 clear hw
 go_wp2_with fail
 exact bodyPost_ret (v := .bool false) (by simp [results, Tryz.results43, go_sem]) rfl (tried_none rfl (below_next HBel.out HB2.out))
set_option maxRecDepth 8000 in
set_option maxHeartbeats 4000000 in
theorem access_hi {E : Env} {V : World} {m : Mach} {sv ov : Value} (h : MachAt E V m sv ov) (op : Int) (hop : 91 < op ∧ op ≠ 146 ∧ op ≠ 147 ∧ op ≠ 150) (d s : Nat) (imm aux bank size : Int) (hd : d < 8) (hs : s < 8) (hi : OkU16 imm) (ha : OkU16 aux) (hb : 0 ≤ bank) : Calls Tryz.prog 43 #[.pointer (some ⟨E.B, 0, none⟩), .agg #[.int .i64 op, .int .i64 (d : Int), .int .i64 (s : Int), .int .u16 imm, .int .u16 aux, .int .i64 bank, .int .i64 size]] V (Tried E V m sv ov (none)) := by
 obtain ⟨hI, HM, HBel, HLT⟩ := box26 h op d s imm aux bank size
 have HI := Lib.hid hI
 have H := Lib.hid h
 have HD := Lib.hid hd
 have HS := Lib.hid hs
 have HA := Lib.hid ha
 have HII := Lib.hid hi
 have HBK := Lib.hid hb
 have d0 : (0 : Int) ≤ (d : Int) := by omega
 have d1 : (d : Int) < 8 := by omega
 have e0 : (0 : Int) ≤ (s : Int) := by omega
 have e1 : (s : Int) < 8 := by omega
 have hw : IntKind.u16.wrap (m.R s + imm) = addrA m s imm := by rw [IntKind.wrap_u16]; rfl
 clear h hI hd hs ha hi hb
 have t0 : decide (84 ≤ op) = true := decide_eq_true (by omega)
 have t1 : decide (op ≤ 87) = false := decide_eq_false (by omega)
 have t2 : decide (88 ≤ op) = true := decide_eq_true (by omega)
 have t3 : decide (op ≤ 91) = false := decide_eq_false (by omega)
 have n80 : (op == 80) = false := by rw [beq_eq_false_iff_ne]; omega
 have n81 : (op == 81) = false := by rw [beq_eq_false_iff_ne]; omega
 have n82 : (op == 82) = false := by rw [beq_eq_false_iff_ne]; omega
 have n83 : (op == 83) = false := by rw [beq_eq_false_iff_ne]; omega
 have n150 : (op == 150) = false := by rw [beq_eq_false_iff_ne]; omega
 have n146 : (op == 146) = false := by rw [beq_eq_false_iff_ne]; omega
 have n147 : (op == 147) = false := by rw [beq_eq_false_iff_ne]; omega
 clear hop
 go_enter Tryz.func43, Tryz.ntmps43
 go_upto_region 1 with (fail)
 generalize V.alloc _ = W0 at *
 have KC := kcB HI.out HM.out HS.out HD.out
 clear HM HI
 refine wp_region_flow (S := fun W => Below W0.heap.size W0 W) (by kernel_rfl) (by kernel_rfl) (Below.drew (Below.refl _ _)) ?_
 iterate 15
  apply Flow.step
  ·intro V2 K hS hK
   obtain ⟨⟨i0, i1, i2, i3, i4, i5, i6⟩, hm, cs, cd, zd⟩ := KC.out V2 hS
   go_simp
   exact hK _ hS
  simp only [lQ]
 refine Flow.done ?_
 intro V2 hS
 have HB2 := Lib.hid hS
 clear hS
 obtain ⟨⟨i0, i1, i2, i3, i4, i5, i6⟩, _⟩ := KC.out V2 HB2.out
 clear hw
 go_wp2_with fail
 exact bodyPost_ret (v := .bool false) (by simp [results, Tryz.results43, go_sem]) rfl (tried_none rfl (below_next HBel.out HB2.out))
theorem accessM_none {E : Env} {m : Mach} {i : InsI} {d s : Nat} (h : i.op < 80 ∨ (91 < i.op ∧ i.op ≠ 146 ∧ i.op ≠ 147 ∧ i.op ≠ 150)) : accessM E m i d s = none := by
 unfold accessM
 rw [if_neg (by omega), if_neg (by omega), if_neg (by omega), if_neg (by omega), if_neg (by omega), if_neg (by omega), if_neg (by omega), if_neg (by omega), if_neg (by omega), if_neg (by omega), if_neg (by omega), if_neg (by omega), if_neg (by omega), if_neg (by omega), if_neg (by omega)]
theorem access_any {E : Env} {V : World} {m : Mach} {sv ov : Value} (h : MachAt E V m sv ov) (i : InsI) (d s : Nat) (hid : i.d = d) (his : i.s = s) (hd : d < 8) (hs : s < 8) (hi : OkU16 i.imm) (ha : OkU16 i.aux) (hb : 0 ≤ i.bank) : Calls Tryz.prog 43 #[.pointer (some ⟨E.B, 0, none⟩), .agg #[.int .i64 i.op, .int .i64 i.d, .int .i64 i.s, .int .u16 i.imm, .int .u16 i.aux, .int .i64 i.bank, .int .i64 i.size]] V (Tried E V m sv ov (accessM E m i d s)) := by
 obtain ⟨op, di, si, imm, aux, bank, size⟩ := i
 dsimp only at hid his hi ha hb ⊢
 subst hid his
 by_cases hl : op < 80
 ·rw [accessM_none (.inl hl)]
  exact access_lo h op hl d s imm aux bank size hd hs hi ha hb
 by_cases hh : 91 < op ∧ op ≠ 146 ∧ op ≠ 147 ∧ op ≠ 150
 ·rw [accessM_none (.inr hh)]
  exact access_hi h op hh d s imm aux bank size hd hs hi ha hb
 rcases (show op = 80 ∨ op = 81 ∨ op = 82 ∨ op = 83 ∨ op = 84 ∨ op = 85 ∨ op = 86 ∨ op = 87 ∨ op = 88 ∨ op = 89 ∨ op = 90 ∨ op = 91 ∨ op = 146 ∨ op = 147 ∨ op = 150 by omega) with rfl | rfl | rfl | rfl | rfl | rfl | rfl | rfl | rfl | rfl | rfl | rfl | rfl | rfl | rfl
 ·cases hx : ramBad (addrA m s imm) 0 2 with
  | some x => exact access_80e h 80 (addrA m s imm) d s imm aux bank size hd hs hi ha hb (by simp) x hx
  | none => exact access_80o h 80 (addrA m s imm) d s imm aux bank size hd hs hi ha hb (by simp) hx
 ·cases hx : ramBad (addrA m s imm) 0 1 with
  | some x => exact access_81e h 81 (addrA m s imm) d s imm aux bank size hd hs hi ha hb (by simp) x hx
  | none => exact access_81o h 81 (addrA m s imm) d s imm aux bank size hd hs hi ha hb (by simp) hx
 ·rcases storeM_cases m (addrA m s imm) 2 (m.R d) with ⟨x, hx⟩ | ⟨m', hx⟩
  ·exact access_82e h 82 (addrA m s imm) d s imm aux bank size hd hs hi ha hb (by simp) x hx
  ·exact access_82o h 82 (addrA m s imm) d s imm aux bank size hd hs hi ha hb (by simp) m' hx
 ·rcases storeM_cases m (addrA m s imm) 1 (m.R d) with ⟨x, hx⟩ | ⟨m', hx⟩
  ·exact access_83e h 83 (addrA m s imm) d s imm aux bank size hd hs hi ha hb (by simp) x hx
  ·exact access_83o h 83 (addrA m s imm) d s imm aux bank size hd hs hi ha hb (by simp) m' hx
 ·cases hx : ramBad imm 0 2 with
  | some x => exact access_80e h 84 imm d s imm aux bank size hd hs hi ha hb (by simp) x hx
  | none => exact access_80o h 84 imm d s imm aux bank size hd hs hi ha hb (by simp) hx
 ·cases hx : ramBad imm 0 1 with
  | some x => exact access_81e h 85 imm d s imm aux bank size hd hs hi ha hb (by simp) x hx
  | none => exact access_81o h 85 imm d s imm aux bank size hd hs hi ha hb (by simp) hx
 ·rcases storeM_cases m imm 2 (m.R d) with ⟨x, hx⟩ | ⟨m', hx⟩
  ·exact access_82e h 86 imm d s imm aux bank size hd hs hi ha hb (by simp) x hx
  ·exact access_82o h 86 imm d s imm aux bank size hd hs hi ha hb (by simp) m' hx
 ·rcases storeM_cases m imm 1 (m.R d) with ⟨x, hx⟩ | ⟨m', hx⟩
  ·exact access_83e h 87 imm d s imm aux bank size hd hs hi ha hb (by simp) x hx
  ·exact access_83o h 87 imm d s imm aux bank size hd hs hi ha hb (by simp) m' hx
 ·cases hx : ramBad (addrA m s imm) 0 2 with
  | some x => exact access_80e h 88 (addrA m s imm) d s imm aux bank size hd hs hi ha hb (by simp) x hx
  | none => exact access_80o h 88 (addrA m s imm) d s imm aux bank size hd hs hi ha hb (by simp) hx
 ·cases hx : ramBad (addrA m s imm) 0 1 with
  | some x => exact access_81e h 89 (addrA m s imm) d s imm aux bank size hd hs hi ha hb (by simp) x hx
  | none => exact access_81o h 89 (addrA m s imm) d s imm aux bank size hd hs hi ha hb (by simp) hx
 ·rcases storeM_cases m (addrA m s imm) 2 (m.R d) with ⟨x, hx⟩ | ⟨m', hx⟩
  ·exact access_82e h 90 (addrA m s imm) d s imm aux bank size hd hs hi ha hb (by simp) x hx
  ·exact access_82o h 90 (addrA m s imm) d s imm aux bank size hd hs hi ha hb (by simp) m' hx
 ·rcases storeM_cases m (addrA m s imm) 1 (m.R d) with ⟨x, hx⟩ | ⟨m', hx⟩
  ·exact access_83e h 91 (addrA m s imm) d s imm aux bank size hd hs hi ha hb (by simp) x hx
  ·exact access_83o h 91 (addrA m s imm) d s imm aux bank size hd hs hi ha hb (by simp) m' hx
 ·cases hx : conBad E bank (addrA m s imm) 0 2 with
  | some x => exact access_146e h 146 (addrA m s imm) d s imm aux bank size hd hs hi ha hb (by simp) x hx
  | none => exact access_146o h 146 (addrA m s imm) d s imm aux bank size hd hs hi ha hb (by simp) hx
 ·cases hx : conBad E bank (addrA m s imm) 0 1 with
  | some x => exact access_147e h 147 (addrA m s imm) d s imm aux bank size hd hs hi ha hb (by simp) x hx
  | none => exact access_147o h 147 (addrA m s imm) d s imm aux bank size hd hs hi ha hb (by simp) hx
 ·rcases storeM_cases m (addrA m s imm) 2 aux with ⟨x, hx⟩ | ⟨m', hx⟩
  ·exact access_150e h 150 (addrA m s imm) d s imm aux bank size hd hs hi ha hb (by simp) x hx
  ·exact access_150o h 150 (addrA m s imm) d s imm aux bank size hd hs hi ha hb (by simp) m' hx
end Go.Proofs.YtieaicdihingkaaGreat
