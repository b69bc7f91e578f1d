/- The reference's machine: loads and stores. -/
import Derived.Test.YtieaicdihingkaaGreatZ8
namespace Go.Proofs.YtieaicdihingkaaGreat
set_option linter.unusedVariables false
set_option linter.unusedSimpArgs false
open Go.RowKit
variable {b0 : Nat} {U V : World} {E : Env} {B g : Nat} {s : RSt}
theorem InsZ.next {W0 W : World} {q : Nat} {i : InsI} (h : InsZ W0 q i) (hb : Below W0.heap.size W0 W) : InsZ W q i := at_next hb h
set_option maxRecDepth 20000 in
set_option maxHeartbeats 20000000 in
theorem ac_ld (h : RM b0 U E B g s V) (ok : s.m.Ok) (k0 : s.k = 0) (d : Nat) (hd : d < 8) (sr : Nat) (hsr : sr < 8) (imm aux bank size : Int) (hi : OkU16 imm) (op N : Int) (n : Nat) (hop : op = 80 ∧ N = 2 ∧ n = 2 ∨ op = 81 ∧ N = 1 ∧ n = 1 ∨ op = 88 ∧ N = 2 ∧ n = 2 ∨ op = 89 ∧ N = 1 ∧ n = 1) : Calls Tryz.prog 32 #[.pointer (some ⟨B, 0, none⟩), .agg #[.int .i64 op, .int .i64 (d : Int), .int .i64 (sr : Int), .int .u16 imm, .int .u16 aux, .int .i64 bank, .int .i64 size]] V (LeavesR b0 U E B g s (loadM s.m (addrA s.m sr imm) n d)) := by
 obtain ⟨HZ, HR, HU⟩ := box_z h op d (sr : Int) imm aux bank size
 have HD := Lib.hid hd
 have HSR := Lib.hid hsr
 have d0 : (0 : Int) ≤ (d : Int) := by omega
 have d1 : (d : Int) < 8 := by omega
 have s0 : (0 : Int) ≤ (sr : Int) := by omega
 have s1 : (sr : Int) < 8 := by omega
 have hN : (n : Int) = N ∧ (n = 1 ∨ n = 2) := ⟨by omega, by omega⟩
 obtain ⟨a, ha⟩ : ∃ a, addrA s.m sr imm = a := ⟨_, rfl⟩
 have hao : OkU16 a := ha ▸ addrA_ok _ _ _
 have xw : IntKind.u16.wrap (s.m.R sr + imm) = a := (IntKind.wrap_u16 _).trans ha
 rw [ha]
 obtain ⟨r, hr⟩ : ∃ r, loadM s.m a n d = r := ⟨_, rfl⟩
 obtain ⟨t1, hs1⟩ : ∃ t1, (rread s a n).1 = t1 := ⟨_, rfl⟩
 obtain ⟨x, hx⟩ : ∃ x, (rread s a n).2 = x := ⟨_, rfl⟩
 have HP : Hid (∀ W0 W, RM b0 W0 E B g s W → Calls Tryz.prog 56 #[.pointer (some ⟨B, 0, none⟩), .int .u16 a, .int .i64 N] W (LeavesV b0 W0 E B g t1 (.int .u16 x))) := Lib.hid fun W0 W hW => by
  have h9 := read_z hW ok.ram a hao n hN.2
  rw [hs1, hx, hN.1] at h9
  exact h9
 have HE : Hid (EndsR s r { t1 with m := { t1.m with R := setR t1.m.R d x } }) := Lib.hid (by
  rw [← hr, ← hs1, ← hx]
  unfold EndsR loadM rread
  cases hl : ramBad a 0 n with
  | some x => exact rfail_ends k0 2 x
  | none => rfl)
 rw [hr]
 clear hs1 hx
 clear h ok k0 hd hi hsr hN hao hr ha
 rcases hop with ⟨rfl, rfl, rfl⟩ | ⟨rfl, rfl, rfl⟩ | ⟨rfl, rfl, rfl⟩ | ⟨rfl, rfl, rfl⟩
 all_goals
  go_enter Tryz.func32, Tryz.ntmps32
  go_upto_region 1 with (fail)
  generalize V.alloc _ = W0 at *
  obtain ⟨q, hq⟩ : ∃ q, V.heap.size = q := ⟨_, rfl⟩
  rw [hq] at HZ ⊢
  clear hq
  obtain ⟨i0, i1, i2, i3, i4, i5, i6⟩ := HZ.out.at (Kz.refl b0 W0)
  go_upto_region 4 with (fail)
  clear i0 i1 i2 i3 i4 i5 i6
  refine wp_region_flow (S := fun W => Below W0.heap.size W0 W) (by kernel_rfl) (by kernel_rfl) (Below.drew (Below.refl _ _)) ?_
  iterate 12
   apply Flow.step
   ·intro V2 K hS hK
    obtain ⟨i0, i1, i2, i3, i4, i5, i6⟩ := HZ.out.at ((Kz.refl b0 W0).next hS)
    have cS := (HR.out.next hS).cellR sr HSR.out
    go_simp
    exact hK _ hS
   simp only [lQ]
  refine Flow.done ?_
  intro V2 hS
  have HU := Lib.hid (HU.out.next hS)
  have HZ := Lib.hid (HZ.out.next hS)
  have HR := Lib.hid (HR.out.next hS).over
  clear hS xw
  obtain ⟨i0, i1, i2, i3, i4, i5, i6⟩ := HZ.out.at (Kz.refl b0 V2)
  go_upto_region 16 with (fail)
  clear i0 i1 i2 i3 i4 i5 i6
  refine wp_region_flowW (S0 := fun W => Below V2.heap.size V2 W) (S1 := fun W => RM b0 V2 E B g t1 W) (Z := fun _ _ => False) 6 (by kernel_rfl) (by kernel_rfl) (by kernel_rfl) (Below.drew (Below.refl _ _)) (fun chain b w' hd hz => hz.elim) ?_
  iterate 6
   apply FlowW.step
   ·intro V3 K hS hK
    obtain ⟨i0, i1, i2, i3, i4, i5, i6⟩ := HZ.out.at (hS.elim (fun h => (Kz.refl b0 V2).next h) fun h => h.2)
    go_simp
    exact hK
   simp only [lQ]
  refine FlowW.call ?_ rfl ?_ ?_
  rotate_left
  ·intro V3 K hS hK
   go_simp
   go_at_call 56
   refine (HP.out _ _ (HR.out.next hS)).mono ?_
   rintro e w9 ⟨rfl, h9⟩
   exact hK _ h9
  simp only [lQ]
  iterate 4
   apply FlowW.after
   ·intro V3 K hS hK
    obtain ⟨i0, i1, i2, i3, i4, i5, i6⟩ := HZ.out.at (hS.elim (fun h => (Kz.refl b0 V2).next h) fun h => h.2)
    go_simp
    exact hK
   simp only [lQ]
  refine FlowW.last ?_
  intro V3 K hS hK
  have cR := hS.cellR d HD.out
  have zR := hS.frz (7 + d)
  go_simp
  refine hK _ _ ?_
  have HW := Lib.hid (HU.out.from (hS.putR d HD.out x rfl))
  clear hS hK cR zR
  go_wp2_with fail
  refine ends (v := .tuple #[]) (by simp [results, Tryz.results32]) rfl ⟨rfl, _, HW.out, HE.out⟩
set_option maxRecDepth 20000 in
set_option maxHeartbeats 20000000 in
theorem ac_la (h : RM b0 U E B g s V) (ok : s.m.Ok) (k0 : s.k = 0) (d : Nat) (hd : d < 8) (sr : Nat) (hsr : sr < 8) (imm aux bank size : Int) (hi : OkU16 imm) (op N : Int) (n : Nat) (hop : op = 84 ∧ N = 2 ∧ n = 2 ∨ op = 85 ∧ N = 1 ∧ n = 1) : Calls Tryz.prog 32 #[.pointer (some ⟨B, 0, none⟩), .agg #[.int .i64 op, .int .i64 (d : Int), .int .i64 (sr : Int), .int .u16 imm, .int .u16 aux, .int .i64 bank, .int .i64 size]] V (LeavesR b0 U E B g s (loadM s.m imm n d)) := by
 obtain ⟨HZ, HR, HU⟩ := box_z h op d (sr : Int) imm aux bank size
 have HD := Lib.hid hd
 have HSR := Lib.hid hsr
 have d0 : (0 : Int) ≤ (d : Int) := by omega
 have d1 : (d : Int) < 8 := by omega
 have s0 : (0 : Int) ≤ (sr : Int) := by omega
 have s1 : (sr : Int) < 8 := by omega
 have hN : (n : Int) = N ∧ (n = 1 ∨ n = 2) := ⟨by omega, by omega⟩
 have hao := hi
 obtain ⟨r, hr⟩ : ∃ r, loadM s.m imm n d = r := ⟨_, rfl⟩
 obtain ⟨t1, hs1⟩ : ∃ t1, (rread s imm n).1 = t1 := ⟨_, rfl⟩
 obtain ⟨x, hx⟩ : ∃ x, (rread s imm n).2 = x := ⟨_, rfl⟩
 have HP : Hid (∀ W0 W, RM b0 W0 E B g s W → Calls Tryz.prog 56 #[.pointer (some ⟨B, 0, none⟩), .int .u16 imm, .int .i64 N] W (LeavesV b0 W0 E B g t1 (.int .u16 x))) := Lib.hid fun W0 W hW => by
  have h9 := read_z hW ok.ram imm hao n hN.2
  rw [hs1, hx, hN.1] at h9
  exact h9
 have HE : Hid (EndsR s r { t1 with m := { t1.m with R := setR t1.m.R d x } }) := Lib.hid (by
  rw [← hr, ← hs1, ← hx]
  unfold EndsR loadM rread
  cases hl : ramBad imm 0 n with
  | some x => exact rfail_ends k0 2 x
  | none => rfl)
 rw [hr]
 clear hs1 hx
 clear h ok k0 hd hi hsr hN hao hr
 rcases hop with ⟨rfl, rfl, rfl⟩ | ⟨rfl, rfl, rfl⟩
 all_goals
  go_enter Tryz.func32, Tryz.ntmps32
  go_upto_region 1 with (fail)
  generalize V.alloc _ = W0 at *
  obtain ⟨q, hq⟩ : ∃ q, V.heap.size = q := ⟨_, rfl⟩
  rw [hq] at HZ ⊢
  clear hq
  obtain ⟨i0, i1, i2, i3, i4, i5, i6⟩ := HZ.out.at (Kz.refl b0 W0)
  go_upto_region 16 with (fail)
  clear i0 i1 i2 i3 i4 i5 i6
  refine wp_region_flowW (S0 := fun W => Below W0.heap.size W0 W) (S1 := fun W => RM b0 W0 E B g t1 W) (Z := fun _ _ => False) 6 (by kernel_rfl) (by kernel_rfl) (by kernel_rfl) (Below.drew (Below.refl _ _)) (fun chain b w' hd hz => hz.elim) ?_
  iterate 6
   apply FlowW.step
   ·intro V3 K hS hK
    obtain ⟨i0, i1, i2, i3, i4, i5, i6⟩ := HZ.out.at (hS.elim (fun h => (Kz.refl b0 W0).next h) fun h => h.2)
    go_simp
    exact hK
   simp only [lQ]
  refine FlowW.call ?_ rfl ?_ ?_
  rotate_left
  ·intro V3 K hS hK
   go_simp
   go_at_call 56
   refine (HP.out _ _ (HR.out.next hS)).mono ?_
   rintro e w9 ⟨rfl, h9⟩
   exact hK _ h9
  simp only [lQ]
  iterate 4
   apply FlowW.after
   ·intro V3 K hS hK
    obtain ⟨i0, i1, i2, i3, i4, i5, i6⟩ := HZ.out.at (hS.elim (fun h => (Kz.refl b0 W0).next h) fun h => h.2)
    go_simp
    exact hK
   simp only [lQ]
  refine FlowW.last ?_
  intro V3 K hS hK
  have cR := hS.cellR d HD.out
  have zR := hS.frz (7 + d)
  go_simp
  refine hK _ _ ?_
  have HW := Lib.hid (HU.out.from (hS.putR d HD.out x rfl))
  clear hS hK cR zR
  go_wp2_with fail
  refine ends (v := .tuple #[]) (by simp [results, Tryz.results32]) rfl ⟨rfl, _, HW.out, HE.out⟩
set_option maxRecDepth 20000 in
set_option maxHeartbeats 20000000 in
theorem ac_st (h : RM b0 U E B g s V) (ok : s.m.Ok) (k0 : s.k = 0) (d : Nat) (hd : d < 8) (sr : Nat) (hsr : sr < 8) (imm aux bank size : Int) (hi : OkU16 imm) (op N : Int) (n : Nat) (hop : op = 82 ∧ N = 2 ∧ n = 2 ∨ op = 83 ∧ N = 1 ∧ n = 1 ∨ op = 90 ∧ N = 2 ∧ n = 2 ∨ op = 91 ∧ N = 1 ∧ n = 1) : Calls Tryz.prog 32 #[.pointer (some ⟨B, 0, none⟩), .agg #[.int .i64 op, .int .i64 (d : Int), .int .i64 (sr : Int), .int .u16 imm, .int .u16 aux, .int .i64 bank, .int .i64 size]] V (LeavesR b0 U E B g s (storeM s.m (addrA s.m sr imm) n (s.m.R d))) := by
 obtain ⟨HZ, HR, HU⟩ := box_z h op d (sr : Int) imm aux bank size
 have HD := Lib.hid hd
 have HSR := Lib.hid hsr
 have d0 : (0 : Int) ≤ (d : Int) := by omega
 have d1 : (d : Int) < 8 := by omega
 have s0 : (0 : Int) ≤ (sr : Int) := by omega
 have s1 : (sr : Int) < 8 := by omega
 have hN : (n : Int) = N ∧ (n = 1 ∨ n = 2) := ⟨by omega, by omega⟩
 obtain ⟨a, ha⟩ : ∃ a, addrA s.m sr imm = a := ⟨_, rfl⟩
 have hao : OkU16 a := ha ▸ addrA_ok _ _ _
 have xw : IntKind.u16.wrap (s.m.R sr + imm) = a := (IntKind.wrap_u16 _).trans ha
 rw [ha]
 obtain ⟨r, hr⟩ : ∃ r, storeM s.m a n (s.m.R d) = r := ⟨_, rfl⟩
 have HP : Hid (∀ W0 W, RM b0 W0 E B g s W → Calls Tryz.prog 57 #[.pointer (some ⟨B, 0, none⟩), .int .u16 a, .int .i64 N, .int .u16 (s.m.R d)] W (Leaves0 b0 W0 E B g (rwrite s a n (s.m.R d)))) := Lib.hid fun W0 W hW => by
  have h9 := write_z hW a hao n hN.2 (s.m.R d) (ok.R d)
  rw [hN.1] at h9
  exact h9
 have HE : Hid (EndsR s r (rwrite s a n (s.m.R d))) := Lib.hid (by
  rw [← hr]
  unfold EndsR storeM rwrite
  cases hl : ramBad a 0 n with
  | some x => exact rfail_ends k0 2 x
  | none => rfl)
 generalize rwrite s a n (s.m.R d) = t1 at HP HE
 rw [hr]
 clear h ok k0 hd hi hsr hN hao hr ha
 rcases hop with ⟨rfl, rfl, rfl⟩ | ⟨rfl, rfl, rfl⟩ | ⟨rfl, rfl, rfl⟩ | ⟨rfl, rfl, rfl⟩
 all_goals
  go_enter Tryz.func32, Tryz.ntmps32
  go_upto_region 1 with (fail)
  generalize V.alloc _ = W0 at *
  obtain ⟨q, hq⟩ : ∃ q, V.heap.size = q := ⟨_, rfl⟩
  rw [hq] at HZ ⊢
  clear hq
  obtain ⟨i0, i1, i2, i3, i4, i5, i6⟩ := HZ.out.at (Kz.refl b0 W0)
  go_upto_region 4 with (fail)
  clear i0 i1 i2 i3 i4 i5 i6
  refine wp_region_flow (S := fun W => Below W0.heap.size W0 W) (by kernel_rfl) (by kernel_rfl) (Below.drew (Below.refl _ _)) ?_
  iterate 12
   apply Flow.step
   ·intro V2 K hS hK
    obtain ⟨i0, i1, i2, i3, i4, i5, i6⟩ := HZ.out.at ((Kz.refl b0 W0).next hS)
    have cS := (HR.out.next hS).cellR sr HSR.out
    go_simp
    exact hK _ hS
   simp only [lQ]
  refine Flow.done ?_
  intro V2 hS
  have HU := Lib.hid (HU.out.next hS)
  have HZ := Lib.hid (HZ.out.next hS)
  have HR := Lib.hid (HR.out.next hS).over
  clear hS xw
  obtain ⟨i0, i1, i2, i3, i4, i5, i6⟩ := HZ.out.at (Kz.refl b0 V2)
  go_upto_region 21 with (fail)
  clear i0 i1 i2 i3 i4 i5 i6
  refine' wp_region_flowR [[], [], [], [], [], [(93, 4)], [(92, 3)], [(95, 6)], [(96, 7)], [(97, 8), (94, 5)], [(98, 9)], [(89, 0), (90, 1), (91, 2), (92, 3), (93, 4), (94, 5), (95, 6), (96, 7), (97, 8), (98, 9), (99, 10)]] (relL [eqV _, eqV _, eqV _, eqV _, eqV _, eqV _, eqV _, eqV _, eqV _, eqV _, eqV _]) (by kernel_rfl) (by kernel_rfl) ?_
  rotate_left 11
  iterate 11
   refine FlowR.step ?_ ?_
   ·intro V hV
    simp only [Dep, lQ]
    repeat rintro _ ⟨_, rfl, _⟩
    intro K hK
    obtain ⟨i0, i1, i2, i3, i4, i5, i6⟩ := HZ.out.at ((Kz.refl b0 V2).next hV)
    have cR := (HR.out.next hV).cellR d HD.out
    go_simp
    refine hK _ _ ?_ (Below.refl _ _)
    simp only [lR]
    exact rfl
  refine FlowR.last ?_
  intro V hV
  simp only [Dep, lQ]
  repeat rintro _ ⟨_, rfl, _⟩
  intro K hK
  obtain ⟨i0, i1, i2, i3, i4, i5, i6⟩ := HZ.out.at ((Kz.refl b0 V2).next hV)
  have cR := (HR.out.next hV).cellR d HD.out
  go_simp
  go_at_call 57
  refine (HP.out _ _ (HR.out.next hV)).mono ?_
  rintro e w ⟨rfl, hw⟩
  refine hK _ _ ?_
  have HW := Lib.hid (HU.out.from hw)
  clear hw hV hK i0 i1 i2 i3 i4 i5 i6 cR
  go_wp2_with fail
  refine ends (v := .tuple #[]) (by simp [results, Tryz.results32]) rfl ⟨rfl, _, HW.out, HE.out⟩
set_option maxRecDepth 20000 in
set_option maxHeartbeats 20000000 in
theorem ac_sa (h : RM b0 U E B g s V) (ok : s.m.Ok) (k0 : s.k = 0) (d : Nat) (hd : d < 8) (sr : Nat) (hsr : sr < 8) (imm aux bank size : Int) (hi : OkU16 imm) (op N : Int) (n : Nat) (hop : op = 86 ∧ N = 2 ∧ n = 2 ∨ op = 87 ∧ N = 1 ∧ n = 1) : Calls Tryz.prog 32 #[.pointer (some ⟨B, 0, none⟩), .agg #[.int .i64 op, .int .i64 (d : Int), .int .i64 (sr : Int), .int .u16 imm, .int .u16 aux, .int .i64 bank, .int .i64 size]] V (LeavesR b0 U E B g s (storeM s.m imm n (s.m.R d))) := by
 obtain ⟨HZ, HR, HU⟩ := box_z h op d (sr : Int) imm aux bank size
 have HD := Lib.hid hd
 have HSR := Lib.hid hsr
 have d0 : (0 : Int) ≤ (d : Int) := by omega
 have d1 : (d : Int) < 8 := by omega
 have s0 : (0 : Int) ≤ (sr : Int) := by omega
 have s1 : (sr : Int) < 8 := by omega
 have hN : (n : Int) = N ∧ (n = 1 ∨ n = 2) := ⟨by omega, by omega⟩
 have hao := hi
 obtain ⟨r, hr⟩ : ∃ r, storeM s.m imm n (s.m.R d) = r := ⟨_, rfl⟩
 have HP : Hid (∀ W0 W, RM b0 W0 E B g s W → Calls Tryz.prog 57 #[.pointer (some ⟨B, 0, none⟩), .int .u16 imm, .int .i64 N, .int .u16 (s.m.R d)] W (Leaves0 b0 W0 E B g (rwrite s imm n (s.m.R d)))) := Lib.hid fun W0 W hW => by
  have h9 := write_z hW imm hao n hN.2 (s.m.R d) (ok.R d)
  rw [hN.1] at h9
  exact h9
 have HE : Hid (EndsR s r (rwrite s imm n (s.m.R d))) := Lib.hid (by
  rw [← hr]
  unfold EndsR storeM rwrite
  cases hl : ramBad imm 0 n with
  | some x => exact rfail_ends k0 2 x
  | none => rfl)
 generalize rwrite s imm n (s.m.R d) = t1 at HP HE
 rw [hr]
 clear h ok k0 hd hi hsr hN hao hr
 rcases hop with ⟨rfl, rfl, rfl⟩ | ⟨rfl, rfl, rfl⟩
 all_goals
  go_enter Tryz.func32, Tryz.ntmps32
  go_upto_region 1 with (fail)
  generalize V.alloc _ = W0 at *
  obtain ⟨q, hq⟩ : ∃ q, V.heap.size = q := ⟨_, rfl⟩
  rw [hq] at HZ ⊢
  clear hq
  obtain ⟨i0, i1, i2, i3, i4, i5, i6⟩ := HZ.out.at (Kz.refl b0 W0)
  go_upto_region 21 with (fail)
  clear i0 i1 i2 i3 i4 i5 i6
  refine' wp_region_flowR [[], [], [], [], [], [(93, 4)], [(92, 3)], [(95, 6)], [(96, 7)], [(97, 8), (94, 5)], [(98, 9)], [(89, 0), (90, 1), (91, 2), (92, 3), (93, 4), (94, 5), (95, 6), (96, 7), (97, 8), (98, 9), (99, 10)]] (relL [eqV _, eqV _, eqV _, eqV _, eqV _, eqV _, eqV _, eqV _, eqV _, eqV _, eqV _]) (by kernel_rfl) (by kernel_rfl) ?_
  rotate_left 11
  iterate 11
   refine FlowR.step ?_ ?_
   ·intro V hV
    simp only [Dep, lQ]
    repeat rintro _ ⟨_, rfl, _⟩
    intro K hK
    obtain ⟨i0, i1, i2, i3, i4, i5, i6⟩ := HZ.out.at ((Kz.refl b0 W0).next hV)
    have cR := (HR.out.next hV).cellR d HD.out
    go_simp
    refine hK _ _ ?_ (Below.refl _ _)
    simp only [lR]
    exact rfl
  refine FlowR.last ?_
  intro V hV
  simp only [Dep, lQ]
  repeat rintro _ ⟨_, rfl, _⟩
  intro K hK
  obtain ⟨i0, i1, i2, i3, i4, i5, i6⟩ := HZ.out.at ((Kz.refl b0 W0).next hV)
  have cR := (HR.out.next hV).cellR d HD.out
  go_simp
  go_at_call 57
  refine (HP.out _ _ (HR.out.next hV)).mono ?_
  rintro e w ⟨rfl, hw⟩
  refine hK _ _ ?_
  have HW := Lib.hid (HU.out.from hw)
  clear hw hV hK i0 i1 i2 i3 i4 i5 i6 cR
  go_wp2_with fail
  refine ends (v := .tuple #[]) (by simp [results, Tryz.results32]) rfl ⟨rfl, _, HW.out, HE.out⟩
set_option maxRecDepth 20000 in
set_option maxHeartbeats 20000000 in
theorem ac_sti (h : RM b0 U E B g s V) (ok : s.m.Ok) (k0 : s.k = 0) (d : Nat) (hd : d < 8) (sr : Nat) (hsr : sr < 8) (imm aux bank size : Int) (hi : OkU16 imm) (hx : OkU16 aux) (op N : Int) (n : Nat) (hop : op = 150 ∧ N = 2 ∧ n = 2) : Calls Tryz.prog 32 #[.pointer (some ⟨B, 0, none⟩), .agg #[.int .i64 op, .int .i64 (d : Int), .int .i64 (sr : Int), .int .u16 imm, .int .u16 aux, .int .i64 bank, .int .i64 size]] V (LeavesR b0 U E B g s (storeM s.m (addrA s.m sr imm) n aux)) := by
 obtain ⟨HZ, HR, HU⟩ := box_z h op d (sr : Int) imm aux bank size
 have HD := Lib.hid hd
 have HSR := Lib.hid hsr
 have d0 : (0 : Int) ≤ (d : Int) := by omega
 have d1 : (d : Int) < 8 := by omega
 have s0 : (0 : Int) ≤ (sr : Int) := by omega
 have s1 : (sr : Int) < 8 := by omega
 have hN : (n : Int) = N ∧ (n = 1 ∨ n = 2) := ⟨by omega, by omega⟩
 obtain ⟨a, ha⟩ : ∃ a, addrA s.m sr imm = a := ⟨_, rfl⟩
 have hao : OkU16 a := ha ▸ addrA_ok _ _ _
 have xw : IntKind.u16.wrap (s.m.R sr + imm) = a := (IntKind.wrap_u16 _).trans ha
 rw [ha]
 obtain ⟨r, hr⟩ : ∃ r, storeM s.m a n aux = r := ⟨_, rfl⟩
 have HP : Hid (∀ W0 W, RM b0 W0 E B g s W → Calls Tryz.prog 57 #[.pointer (some ⟨B, 0, none⟩), .int .u16 a, .int .i64 N, .int .u16 aux] W (Leaves0 b0 W0 E B g (rwrite s a n aux))) := Lib.hid fun W0 W hW => by
  have h9 := write_z hW a hao n hN.2 aux hx
  rw [hN.1] at h9
  exact h9
 have HE : Hid (EndsR s r (rwrite s a n aux)) := Lib.hid (by
  rw [← hr]
  unfold EndsR storeM rwrite
  cases hl : ramBad a 0 n with
  | some x => exact rfail_ends k0 2 x
  | none => rfl)
 generalize rwrite s a n aux = t1 at HP HE
 rw [hr]
 clear h ok k0 hd hi hsr hN hao hr ha
 clear hx
 obtain ⟨rfl, rfl, rfl⟩ := hop
 go_enter Tryz.func32, Tryz.ntmps32
 go_upto_region 1 with (fail)
 generalize V.alloc _ = W0 at *
 obtain ⟨q, hq⟩ : ∃ q, V.heap.size = q := ⟨_, rfl⟩
 rw [hq] at HZ ⊢
 clear hq
 obtain ⟨i0, i1, i2, i3, i4, i5, i6⟩ := HZ.out.at (Kz.refl b0 W0)
 go_upto_region 4 with (fail)
 clear i0 i1 i2 i3 i4 i5 i6
 refine wp_region_flow (S := fun W => Below W0.heap.size W0 W) (by kernel_rfl) (by kernel_rfl) (Below.drew (Below.refl _ _)) ?_
 iterate 12
  apply Flow.step
  ·intro V2 K hS hK
   obtain ⟨i0, i1, i2, i3, i4, i5, i6⟩ := HZ.out.at ((Kz.refl b0 W0).next hS)
   have cS := (HR.out.next hS).cellR sr HSR.out
   go_simp
   exact hK _ hS
  simp only [lQ]
 refine Flow.done ?_
 intro V2 hS
 have HU := Lib.hid (HU.out.next hS)
 have HZ := Lib.hid (HZ.out.next hS)
 have HR := Lib.hid (HR.out.next hS).over
 clear hS xw
 obtain ⟨i0, i1, i2, i3, i4, i5, i6⟩ := HZ.out.at (Kz.refl b0 V2)
 go_wp2_with fail
 refine (HP.out _ _ HR.out).mono ?_
 rintro e w ⟨rfl, hw⟩
 have HW := Lib.hid (HU.out.from hw)
 clear hw i0 i1 i2 i3 i4 i5 i6
 go_wp2_with fail
 refine ends (v := .tuple #[]) (by simp [results, Tryz.results32]) rfl ⟨rfl, _, HW.out, HE.out⟩
set_option maxRecDepth 20000 in
set_option maxHeartbeats 20000000 in
theorem ac_con (h : RM b0 U E B g s V) (ok : s.m.Ok) (k0 : s.k = 0) (d : Nat) (hd : d < 8) (sr : Nat) (hsr : sr < 8) (bk : Nat) (imm aux size : Int) (hi : OkU16 imm) (hbk : bk < 64) (hE : StrsLow b0 U E.pb E.banks) (hl : E.banks.length ≤ maxLen) (op N : Int) (n : Nat) (hop : op = 146 ∧ N = 2 ∧ n = 2 ∨ op = 147 ∧ N = 1 ∧ n = 1) : Calls Tryz.prog 32 #[.pointer (some ⟨B, 0, none⟩), .agg #[.int .i64 op, .int .i64 (d : Int), .int .i64 (sr : Int), .int .u16 imm, .int .u16 aux, .int .i64 (bk : Int), .int .i64 size]] V (LeavesR b0 U E B g s (conM E s.m bk (addrA s.m sr imm) n d)) := by
 obtain ⟨HZ, HR, HU⟩ := box_z h op d (sr : Int) imm aux (bk : Int) size
 have HD := Lib.hid hd
 have HSR := Lib.hid hsr
 have d0 : (0 : Int) ≤ (d : Int) := by omega
 have d1 : (d : Int) < 8 := by omega
 have s0 : (0 : Int) ≤ (sr : Int) := by omega
 have s1 : (sr : Int) < 8 := by omega
 have hN : (n : Int) = N ∧ (n = 1 ∨ n = 2) := ⟨by omega, by omega⟩
 obtain ⟨a, ha⟩ : ∃ a, addrA s.m sr imm = a := ⟨_, rfl⟩
 have hao : OkU16 a := ha ▸ addrA_ok _ _ _
 have xw : IntKind.u16.wrap (s.m.R sr + imm) = a := (IntKind.wrap_u16 _).trans ha
 rw [ha]
 obtain ⟨r, hr⟩ : ∃ r, conM E s.m bk a n d = r := ⟨_, rfl⟩
 obtain ⟨t1, hs1⟩ : ∃ t1, (rrom E s bk a n).1 = t1 := ⟨_, rfl⟩
 obtain ⟨x, hx⟩ : ∃ x, (rrom E s bk a n).2 = x := ⟨_, rfl⟩
 have HP : Hid (∀ W0 W, Kz b0 U W0 → RM b0 W0 E B g s W → Calls Tryz.prog 58 #[.pointer (some ⟨B, 0, none⟩), .int .i64 (bk : Int), .int .u16 a, .int .i64 N] W (LeavesV b0 W0 E B g t1 (.int .u16 x))) := Lib.hid fun W0 W hK hW => by
  have h9 := rom_z hW (hE.kz hK) hl bk hbk a hao n hN.2
  rw [hs1, hx, hN.1] at h9
  exact h9
 have HE : Hid (EndsR s r { t1 with m := { t1.m with R := setR t1.m.R d x } }) := Lib.hid (by
  rw [← hr, ← hs1, ← hx]
  unfold EndsR conM rrom
  cases hl : conBad E bk a 0 n with
  | some x => exact rfail_ends k0 2 x
  | none => rfl)
 rw [hr]
 clear hs1 hx
 clear h ok k0 hd hi hsr hN hao hr ha
 clear hE hl hbk
 rcases hop with ⟨rfl, rfl, rfl⟩ | ⟨rfl, rfl, rfl⟩
 all_goals
  go_enter Tryz.func32, Tryz.ntmps32
  go_upto_region 1 with (fail)
  generalize V.alloc _ = W0 at *
  obtain ⟨q, hq⟩ : ∃ q, V.heap.size = q := ⟨_, rfl⟩
  rw [hq] at HZ ⊢
  clear hq
  obtain ⟨i0, i1, i2, i3, i4, i5, i6⟩ := HZ.out.at (Kz.refl b0 W0)
  go_upto_region 4 with (fail)
  clear i0 i1 i2 i3 i4 i5 i6
  refine wp_region_flow (S := fun W => Below W0.heap.size W0 W) (by kernel_rfl) (by kernel_rfl) (Below.drew (Below.refl _ _)) ?_
  iterate 12
   apply Flow.step
   ·intro V2 K hS hK
    obtain ⟨i0, i1, i2, i3, i4, i5, i6⟩ := HZ.out.at ((Kz.refl b0 W0).next hS)
    have cS := (HR.out.next hS).cellR sr HSR.out
    go_simp
    exact hK _ hS
   simp only [lQ]
  refine Flow.done ?_
  intro V2 hS
  have HU := Lib.hid (HU.out.next hS)
  have HZ := Lib.hid (HZ.out.next hS)
  have HR := Lib.hid (HR.out.next hS).over
  clear hS xw
  obtain ⟨i0, i1, i2, i3, i4, i5, i6⟩ := HZ.out.at (Kz.refl b0 V2)
  go_upto_region 11 with (fail)
  clear i0 i1 i2 i3 i4 i5 i6
  refine wp_region_flowW (S0 := fun W => Below V2.heap.size V2 W) (S1 := fun W => RM b0 V2 E B g t1 W) (Z := fun _ _ => False) 8 (by kernel_rfl) (by kernel_rfl) (by kernel_rfl) (Below.drew (Below.refl _ _)) (fun chain b w' hd hz => hz.elim) ?_
  iterate 8
   apply FlowW.step
   ·intro V3 K hS hK
    obtain ⟨i0, i1, i2, i3, i4, i5, i6⟩ := HZ.out.at (hS.elim (fun h => (Kz.refl b0 V2).next h) fun h => h.2)
    go_simp
    exact hK
   simp only [lQ]
  refine FlowW.call ?_ rfl ?_ ?_
  rotate_left
  ·intro V3 K hS hK
   go_simp
   go_at_call 58
   refine (HP.out _ _ HU.out.2 (HR.out.next hS)).mono ?_
   rintro e w9 ⟨rfl, h9⟩
   exact hK _ h9
  simp only [lQ]
  iterate 4
   apply FlowW.after
   ·intro V3 K hS hK
    obtain ⟨i0, i1, i2, i3, i4, i5, i6⟩ := HZ.out.at (hS.elim (fun h => (Kz.refl b0 V2).next h) fun h => h.2)
    go_simp
    exact hK
   simp only [lQ]
  refine FlowW.last ?_
  intro V3 K hS hK
  have cR := hS.cellR d HD.out
  have zR := hS.frz (7 + d)
  go_simp
  refine hK _ _ ?_
  have HW := Lib.hid (HU.out.from (hS.putR d HD.out x rfl))
  clear hS hK cR zR
  go_wp2_with fail
  refine ends (v := .tuple #[]) (by simp [results, Tryz.results32]) rfl ⟨rfl, _, HW.out, HE.out⟩
end Go.Proofs.YtieaicdihingkaaGreat
