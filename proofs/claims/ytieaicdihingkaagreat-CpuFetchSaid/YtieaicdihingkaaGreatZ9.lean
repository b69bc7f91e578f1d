/- The reference's machine: stack (LDS, STS, LDF, STF). -/
import Derived.Test.YtieaicdihingkaaGreatZ8
namespace Go.Proofs.YtieaicdihingkaaGreat
set_option linter.unusedVariables false
set_option linter.unusedSimpArgs false
open Go.RowKit
variable {b0 : Nat} {U V : World} {E : Env} {B g : Nat} {s : RSt}
theorem sgI_bd9 (x : Int) (h : OkU16 x) : -32768 ≤ sgI x ∧ sgI x ≤ 32767 := by
 unfold sgI
 have := h.1
 have := h.2
 split <;> omega
theorem own_frz {V : World} {b0 n c : Nat} {q : Nat} {xs : List Value} (h : V.ownsRow b0 22 1 (.slice (some ⟨q, 0, none⟩) n c) n xs) (k : Nat) : V.frozen? ⟨q, k, none⟩ = false := by
 rcases h.2 with ⟨e, h0⟩ | ⟨g, cap, cur, e1, hb, hg, _⟩
 ·cases e
 ·injection e1 with e1 e2 e3
  injection e1 with e1
  injection e1 with e1
  subst e1
  exact at_fr hg k
theorem own_setz {V : World} {b0 q c : Nat} {l : List Int} (h : V.ownsRow b0 22 1 (.slice (some ⟨q, 0, none⟩) l.length c) l.length (l.map (Value.int .u16))) (k : Nat) (x : Int) : (V.setCell ⟨q, k, none⟩ (.int .u16 x)).ownsRow b0 22 1 (.slice (some ⟨q, 0, none⟩) l.length c) l.length ((l.set k x).map (Value.int .u16)) := by
 obtain ⟨h1, h2⟩ := h
 rcases h2 with ⟨e, _⟩ | ⟨g, cap, cur, e1, hb, hg, hnc, hcm, hcs, ht⟩
 ·cases e
 ·injection e1 with e1 e2 e3
  injection e1 with e1
  injection e1 with e1
  subst e1 e3
  refine ⟨by simp, .inr ⟨q, c, cur.setIfInBounds k (.int .u16 x), rfl, hb, sc_blk hg rfl, hnc, hcm, by simpa using hcs, ?_⟩⟩
  rw [Array.toList_setIfInBounds, List.take_set, ht, List.map_set]
theorem RM.setSt {b0 : Nat} {U V W : World} {E : Env} {B g : Nat} {s : RSt} (h : RM b0 U E B g s V) {q n c k : Nat} {x : Int} (hc : V.cell? ⟨B, 24, none⟩ = some (.slice (some ⟨q, 0, none⟩) n c)) (hk : k < s.m.st.length) (e : V.setCell ⟨q, k, none⟩ (.int .u16 x) = W) : RM b0 U E B g { s with m := setSt s.m (s.m.st.set k x) } W := by
 obtain ⟨⟨sv, ov, hr⟩, hb⟩ := h
 obtain rfl : sv = .slice (some ⟨q, 0, none⟩) n c := by
  have h9 := hr.cell 24 sv rfl
  rw [hc] at h9
  injection h9 with h9
  exact h9.symm
 have hst := hr.st
 have hq : b0 ≤ q ∧ ∃ cur, V.heap[q]? = some (.cells cur 22 (0, 0)) ∧ n = s.m.st.length := by
  rcases hst.2 with ⟨e9, _⟩ | ⟨g9, cap, cur, e1, hb9, hg9, hr9⟩
  ·cases e9
  ·injection e1 with e1 e2 e3
   injection e1 with e1
   injection e1 with e1
   subst e1
   exact ⟨hb9, cur, hg9, e2⟩
 obtain ⟨hl, cur, hqc, rfl⟩ := hq
 have neB : q ≠ B := fun e9 => by
  have h9 := hr.blk
  rw [← e9, hqc] at h9
  simp at h9
 obtain ⟨rc, r1, r2, r3⟩ := hr.ram
 have neG : q ≠ g := fun e9 => by
  rw [← e9, hqc] at r1
  simp at r1
 refine ⟨⟨.slice (some ⟨q, 0, none⟩) s.m.st.length c, ov, ⟨?_, ⟨rc, sc_oth neG r1 e, r2, r3⟩, ?_, ?_, hr.low⟩⟩, hb.set hqc hl (.inr (.inr (.inl rfl))) e⟩
 ·exact sc_oth neB hr.blk e
 ·have h9 := own_setz hst k x
  rw [e] at h9
  show W.ownsRow b0 22 1 (.slice (some ⟨q, 0, none⟩) s.m.st.length c) (s.m.st.set k x).length _
  rw [List.length_set]
  exact h9
 ·rw [← e]; exact own_set' hr.out hqc (by decide)
set_option maxRecDepth 20000 in
set_option maxHeartbeats 8000000 in
theorem st_lds (h : RM b0 U E B g s V) (ok : s.m.Ok) (k0 : s.k = 0) (d : Nat) (hd : d < 8) (si imm aux bank size : Int) (hi : OkU16 imm) : Calls Tryz.prog 29 #[.pointer (some ⟨B, 0, none⟩), .agg #[.int .i64 160, .int .i64 (d : Int), .int .i64 si, .int .u16 imm, .int .u16 aux, .int .i64 bank, .int .i64 size]] V (LeavesR b0 U E B g s (ldM s.m (spIdx s.m imm) d)) := by
 obtain ⟨HZ, HR, HU⟩ := box_z h 160 d si imm aux bank size
 have OK := Lib.hid ok
 have K0 := Lib.hid k0
 have HD := Lib.hid hd
 have HI := Lib.hid hi
 have d0 : (0 : Int) ≤ (d : Int) := by omega
 have d1 : (d : Int) < 8 := by omega
 clear h ok k0 hd hi
 go_enter Tryz.func29, Tryz.ntmps29
 go_upto_region 1 with (fail)
 generalize V.alloc _ = W0 at *
 obtain ⟨q, hq⟩ : ∃ q, V.heap.size = q := ⟨_, rfl⟩
 rw [hq] at HZ ⊢
 clear hq
 obtain ⟨i0, i1, i2, i3, i4, i5, i6⟩ := HZ.out.at (Kz.refl b0 W0)
 obtain ⟨p, c, c24, hown⟩ := HR.out.stack
 have HO := Lib.hid hown
 have c17 := HR.out.cell 17 (.int .u16 s.m.fp) (fun _ _ => rfl)
 obtain ⟨z, hz⟩ : ∃ z, (s.m.st.length : Int) - 1 - imm = z := ⟨_, rfl⟩
 have HZZ := Lib.hid hz
 have xw : IntKind.i64.wrap imm = imm := IntWalk.i64_in _ (by have := HI.out.1; have := HI.out.2; omega)
 have xf : IntKind.i64.wrap s.m.fp = s.m.fp := IntWalk.i64_in _ (by have := OK.out.fp.1; have := OK.out.fp.2; omega)
 have xs : IntKind.i16.wrap imm = sgI imm := sgI_wrap _ HI.out.1 HI.out.2
 have xt : IntKind.i64.wrap (sgI imm) = sgI imm := IntWalk.i64_in _ (by have := sgI_bd9 imm HI.out; omega)
 have x1 : IntKind.i64.wrap ((s.m.st.length : Int) - 1) = (s.m.st.length : Int) - 1 := IntWalk.i64_in _ (by have := OK.out.len; omega)
 have xz : IntKind.i64.wrap ((s.m.st.length : Int) - 1 - imm) = z := by
  have := sgI_bd9 imm HI.out
  have := OK.out.fp.1
  have := OK.out.fp.2
  have := HI.out.1
  have := HI.out.2
  have := OK.out.len
  rw [IntWalk.i64_in _ (by omega)]
  exact hz
 have HC : Hid (∀ W, Kz b0 W0 W → W.cell? ⟨q, 3, none⟩ = some (.int .u16 imm) ∧ W.cell? ⟨q, 1, none⟩ = some (.int .i64 (d : Int)) ∧ W.cell? ⟨q, 0, none⟩ = some (.int .i64 160)) := Lib.hid fun W hW => ⟨(HZ.out.at hW).2.2.2.1, (HZ.out.at hW).2.1, (HZ.out.at hW).1⟩
 have HC2 : Hid (∀ W, Below W0.heap.size W0 W → W.cell? ⟨B, 17, none⟩ = some (.int .u16 s.m.fp) ∧ W.cell? ⟨B, 24, none⟩ = some (.slice p s.m.st.length c)) := Lib.hid fun W hW => ⟨(hW.cell (p := ⟨B, 17, none⟩) HR.out.lt).trans c17, (hW.cell (p := ⟨B, 24, none⟩) HR.out.lt).trans c24⟩
 have HP := Lib.hid (fun V (h : RM b0 W0 E B g s V) => slot_z h z)
 obtain ⟨s1, hs1⟩ : ∃ s1, (rslot s z).1 = s1 := ⟨_, rfl⟩
 obtain ⟨y, hy⟩ : ∃ y, (rslot s z).2 = y := ⟨_, rfl⟩
 rw [hs1, hy] at HP
 have HS1 := Lib.hid hs1
 have HY := Lib.hid hy
 clear hs1 hy hz hown c17 c24
 go_upto_region 28 with (fail)
 clear i0 i1 i2 i3 i4 i5 i6
 refine' wp_region_flowT [2, 3, 4, 5, 6, 7, 8, 9, 10] [11, 12] [[], [], [(134, 1)], [(135, 2)], [(136, 3)], [(137, 4)], [(138, 5)], [], [(140, 7)], [(141, 8)], [(139, 6), (142, 9)], [(133, 0), (143, 10)], [(144, 11)]] [(133, 0), (134, 1), (135, 2), (136, 3), (137, 4), (138, 5), (139, 6), (140, 7), (141, 8), (142, 9), (143, 10)] (relL [eqV _, eqV _, eqV _, eqV _, eqV _, eqV _, eqV _, eqV _, eqV _, eqV _, eqV _, fun v V => True, fun v V => True]) [(11, _), (12, _)] (by kernel_rfl) (by kernel_rfl) rfl ?_ ?_
 rotate_left 11
 ·iterate 2
   refine FlowT.val (by decide) _ (fun _ _ => Iff.rfl) ?_ ?_
   ·simp only [DepP, lQ]
    repeat rintro _ ⟨_, rfl⟩
    intro V K hK
    go_simp
    exact hK
  iterate 9
   refine FlowT.mem (by decide) ?_ ?_
   ·intro V hV
    simp only [Dep, lQ]
    repeat rintro _ ⟨_, rfl, _⟩
    intro K hK
    obtain ⟨i3, i1, i0⟩ := HC.out _ ((Kz.refl b0 W0).next hV)
    obtain ⟨c17, c24⟩ := HC2.out _ hV
    go_simp
    refine hK _ _ ?_ (Below.refl _ _)
    simp only [lR]
    exact rfl
  iterate 2
   refine FlowT.store (by decide) rfl ?_
  exact FlowT.nil
 ·intro V hV
  simp only [Dep, lQ]
  repeat rintro _ ⟨_, rfl, _⟩
  have HV := Lib.hid (HR.out.next hV)
  clear hV
  intro K1 hK1
  go_simp
  go_at_call 51
  refine (HP.out _ HV.out).mono ?_
  rintro e w ⟨rfl, hw⟩
  refine hK1 _ _ ?_
  clear hK1 K1
  simp only [Act.put]
  have HW := Lib.hid hw
  clear hw
  intro K1 hK1
  go_simp
  refine hK1 _ _ ?_
  clear hK1 K1
  simp only [Act.put]
  unfold TailS
  by_cases hok : 0 ≤ z ∧ z < (s.m.st.length : Int)
  rotate_left
  ·have hr : rslot s z = (rfail s 5 0, -1) := if_neg hok
   have hs1 := HS1.out
   have hy := HY.out
   rw [hr] at hs1 hy
   subst hs1 hy
   have HNO := Lib.hid hok
   obtain ⟨i3, i1, i0⟩ := HC.out _ HW.out.2
   clear hr hok
   go_wp2_with fail
   refine ends (v := .tuple #[]) (by simp [results, Tryz.results29]) rfl ⟨rfl, _, HU.out.from HW.out, ?_⟩
   unfold EndsR ldM slotAt
   rw [show spIdx s.m imm = z from HZZ.out, if_neg HNO.out]
   exact rfail_ends K0.out 5 0
  have hr : rslot s z = (s, z) := if_pos hok
  have hs1 := HS1.out
  have hy := HY.out
  rw [hr] at hs1 hy
  subst hs1 hy
  obtain ⟨k, hk⟩ : ∃ k : Nat, z = (k : Int) := ⟨z.toNat, by omega⟩
  subst hk
  have hkl : k < s.m.st.length := by omega
  obtain ⟨p2, c2, c24, hown⟩ := HW.out.stack
  obtain ⟨q2, hp, hq2, hcell⟩ := (own_src hown).resolve_left (fun h0 => by have h0 : s.m.st.length = 0 := h0; omega)
  subst hp
  have cx := hcell k (.int .u16 ((s.m.st[k]?).getD 0)) (by rw [List.getElem?_map, List.getElem?_eq_getElem hkl]; rfl)
  have HKL := Lib.hid hkl
  have HFA : Hid (∀ W, Below w.heap.size w W → W.cell? ⟨B, 24, none⟩ = some (.slice (some ⟨q2, 0, none⟩) s.m.st.length c2) ∧ W.cell? ⟨q2, k, none⟩ = some (.int .u16 ((s.m.st[k]?).getD 0)) ∧ W.cell? ⟨B, 7 + d, none⟩ = some (.int .u16 (s.m.R d)) ∧ W.frozen? ⟨B, 7 + d, none⟩ = false ∧ W.frozen? ⟨q2, k, none⟩ = false) := Lib.hid fun W hW => ⟨((hW.cell (p := ⟨B, 24, none⟩) HW.out.lt)).trans c24, (hW.cell (p := ⟨q2, k, none⟩) hq2).trans cx, (HW.out.next hW).cellR d HD.out, (HW.out.next hW).frz (7 + d), (hW.frozen (p := ⟨q2, k, none⟩) hq2).trans (own_frz hown k)⟩
  obtain ⟨i3, i1, i0⟩ := HC.out _ HW.out.2
  have j0 : (0 : Int) ≤ (k : Int) := by omega
  have j1 : (k : Int) < (s.m.st.length : Int) := by omega
  have HOW := Lib.hid hown
  clear hr hok hkl hcell cx hown c24 hq2
  go_upto_region 31 with (fail)
  clear i3 i1 i0
  refine' wp_region_flowR [[], [], [(156, 1)], [], [(158, 3)], [(159, 4)], [(160, 5)], [], [(161, 6), (162, 7)], [(163, 8)], [(155, 0)], [(165, 10)], [(166, 11)], [(167, 12), (157, 2)], [(155, 0), (156, 1), (157, 2), (158, 3), (159, 4), (160, 5), (161, 6), (162, 7), (163, 8), (164, 9), (165, 10), (166, 11), (167, 12), (168, 13)]] (relL [eqV _, eqV _, eqV _, eqV _, eqV _, eqV _, eqV _, eqV _, eqV _, eqV _, eqV _, eqV _, eqV _, eqV _]) (by kernel_rfl) (by kernel_rfl) ?_
  rotate_left 14
  iterate 14
   refine FlowR.step ?_ ?_
   ·intro V hV
    simp only [Dep, lQ]
    repeat rintro _ ⟨_, rfl, _⟩
    intro K hK
    obtain ⟨i3, i1, i0⟩ := HC.out _ (HW.out.2.next hV)
    obtain ⟨c24, cx, cR, zR, zq⟩ := HFA.out _ hV
    go_simp
    refine hK _ _ ?_ (Below.refl _ _)
    simp only [lR]
    exact rfl
  refine FlowR.last ?_
  intro V hV
  simp only [Dep, lQ]
  repeat rintro _ ⟨_, rfl, _⟩
  intro K hK
  obtain ⟨i3, i1, i0⟩ := HC.out _ (HW.out.2.next hV)
  obtain ⟨c24, cx, cR, zR, zq⟩ := HFA.out _ hV
  go_simp
  refine hK _ _ ?_
  generalize eA : World.setCell _ _ _ = WA
  have HQ := Lib.hid ((HW.out.next hV).putR d HD.out _ eA)
  clear hK hV eA i3 i1 i0 c24 cx cR zR zq
  go_wp2_with fail
  refine ends (v := .tuple #[]) (by simp [results, Tryz.results29]) rfl ⟨rfl, _, HU.out.from HQ.out, ?_⟩
  unfold EndsR ldM slotAt
  rw [show spIdx s.m imm = (k : Int) from HZZ.out, if_pos ⟨by omega, by have := HKL.out; omega⟩]
  rfl
set_option maxRecDepth 20000 in
set_option maxHeartbeats 8000000 in
theorem st_sts (h : RM b0 U E B g s V) (ok : s.m.Ok) (k0 : s.k = 0) (d : Nat) (hd : d < 8) (si imm aux bank size : Int) (hi : OkU16 imm) : Calls Tryz.prog 29 #[.pointer (some ⟨B, 0, none⟩), .agg #[.int .i64 161, .int .i64 (d : Int), .int .i64 si, .int .u16 imm, .int .u16 aux, .int .i64 bank, .int .i64 size]] V (LeavesR b0 U E B g s (stM s.m (spIdx s.m imm) d)) := by
 obtain ⟨HZ, HR, HU⟩ := box_z h 161 d si imm aux bank size
 have OK := Lib.hid ok
 have K0 := Lib.hid k0
 have HD := Lib.hid hd
 have HI := Lib.hid hi
 have d0 : (0 : Int) ≤ (d : Int) := by omega
 have d1 : (d : Int) < 8 := by omega
 clear h ok k0 hd hi
 go_enter Tryz.func29, Tryz.ntmps29
 go_upto_region 1 with (fail)
 generalize V.alloc _ = W0 at *
 obtain ⟨q, hq⟩ : ∃ q, V.heap.size = q := ⟨_, rfl⟩
 rw [hq] at HZ ⊢
 clear hq
 obtain ⟨i0, i1, i2, i3, i4, i5, i6⟩ := HZ.out.at (Kz.refl b0 W0)
 obtain ⟨p, c, c24, hown⟩ := HR.out.stack
 have HO := Lib.hid hown
 have c17 := HR.out.cell 17 (.int .u16 s.m.fp) (fun _ _ => rfl)
 obtain ⟨z, hz⟩ : ∃ z, (s.m.st.length : Int) - 1 - imm = z := ⟨_, rfl⟩
 have HZZ := Lib.hid hz
 have xw : IntKind.i64.wrap imm = imm := IntWalk.i64_in _ (by have := HI.out.1; have := HI.out.2; omega)
 have xf : IntKind.i64.wrap s.m.fp = s.m.fp := IntWalk.i64_in _ (by have := OK.out.fp.1; have := OK.out.fp.2; omega)
 have xs : IntKind.i16.wrap imm = sgI imm := sgI_wrap _ HI.out.1 HI.out.2
 have xt : IntKind.i64.wrap (sgI imm) = sgI imm := IntWalk.i64_in _ (by have := sgI_bd9 imm HI.out; omega)
 have x1 : IntKind.i64.wrap ((s.m.st.length : Int) - 1) = (s.m.st.length : Int) - 1 := IntWalk.i64_in _ (by have := OK.out.len; omega)
 have xz : IntKind.i64.wrap ((s.m.st.length : Int) - 1 - imm) = z := by
  have := sgI_bd9 imm HI.out
  have := OK.out.fp.1
  have := OK.out.fp.2
  have := HI.out.1
  have := HI.out.2
  have := OK.out.len
  rw [IntWalk.i64_in _ (by omega)]
  exact hz
 have HC : Hid (∀ W, Kz b0 W0 W → W.cell? ⟨q, 3, none⟩ = some (.int .u16 imm) ∧ W.cell? ⟨q, 1, none⟩ = some (.int .i64 (d : Int)) ∧ W.cell? ⟨q, 0, none⟩ = some (.int .i64 161)) := Lib.hid fun W hW => ⟨(HZ.out.at hW).2.2.2.1, (HZ.out.at hW).2.1, (HZ.out.at hW).1⟩
 have HC2 : Hid (∀ W, Below W0.heap.size W0 W → W.cell? ⟨B, 17, none⟩ = some (.int .u16 s.m.fp) ∧ W.cell? ⟨B, 24, none⟩ = some (.slice p s.m.st.length c)) := Lib.hid fun W hW => ⟨(hW.cell (p := ⟨B, 17, none⟩) HR.out.lt).trans c17, (hW.cell (p := ⟨B, 24, none⟩) HR.out.lt).trans c24⟩
 have HP := Lib.hid (fun V (h : RM b0 W0 E B g s V) => slot_z h z)
 obtain ⟨s1, hs1⟩ : ∃ s1, (rslot s z).1 = s1 := ⟨_, rfl⟩
 obtain ⟨y, hy⟩ : ∃ y, (rslot s z).2 = y := ⟨_, rfl⟩
 rw [hs1, hy] at HP
 have HS1 := Lib.hid hs1
 have HY := Lib.hid hy
 clear hs1 hy hz hown c17 c24
 go_upto_region 28 with (fail)
 clear i0 i1 i2 i3 i4 i5 i6
 refine' wp_region_flowT [2, 3, 4, 5, 6, 7, 8, 9, 10] [11, 12] [[], [], [(134, 1)], [(135, 2)], [(136, 3)], [(137, 4)], [(138, 5)], [], [(140, 7)], [(141, 8)], [(139, 6), (142, 9)], [(133, 0), (143, 10)], [(144, 11)]] [(133, 0), (134, 1), (135, 2), (136, 3), (137, 4), (138, 5), (139, 6), (140, 7), (141, 8), (142, 9), (143, 10)] (relL [eqV _, eqV _, eqV _, eqV _, eqV _, eqV _, eqV _, eqV _, eqV _, eqV _, eqV _, fun v V => True, fun v V => True]) [(11, _), (12, _)] (by kernel_rfl) (by kernel_rfl) rfl ?_ ?_
 rotate_left 11
 ·iterate 2
   refine FlowT.val (by decide) _ (fun _ _ => Iff.rfl) ?_ ?_
   ·simp only [DepP, lQ]
    repeat rintro _ ⟨_, rfl⟩
    intro V K hK
    go_simp
    exact hK
  iterate 9
   refine FlowT.mem (by decide) ?_ ?_
   ·intro V hV
    simp only [Dep, lQ]
    repeat rintro _ ⟨_, rfl, _⟩
    intro K hK
    obtain ⟨i3, i1, i0⟩ := HC.out _ ((Kz.refl b0 W0).next hV)
    obtain ⟨c17, c24⟩ := HC2.out _ hV
    go_simp
    refine hK _ _ ?_ (Below.refl _ _)
    simp only [lR]
    exact rfl
  iterate 2
   refine FlowT.store (by decide) rfl ?_
  exact FlowT.nil
 ·intro V hV
  simp only [Dep, lQ]
  repeat rintro _ ⟨_, rfl, _⟩
  have HV := Lib.hid (HR.out.next hV)
  clear hV
  intro K1 hK1
  go_simp
  go_at_call 51
  refine (HP.out _ HV.out).mono ?_
  rintro e w ⟨rfl, hw⟩
  refine hK1 _ _ ?_
  clear hK1 K1
  simp only [Act.put]
  have HW := Lib.hid hw
  clear hw
  intro K1 hK1
  go_simp
  refine hK1 _ _ ?_
  clear hK1 K1
  simp only [Act.put]
  unfold TailS
  by_cases hok : 0 ≤ z ∧ z < (s.m.st.length : Int)
  rotate_left
  ·have hr : rslot s z = (rfail s 5 0, -1) := if_neg hok
   have hs1 := HS1.out
   have hy := HY.out
   rw [hr] at hs1 hy
   subst hs1 hy
   have HNO := Lib.hid hok
   obtain ⟨i3, i1, i0⟩ := HC.out _ HW.out.2
   clear hr hok
   go_wp2_with fail
   refine ends (v := .tuple #[]) (by simp [results, Tryz.results29]) rfl ⟨rfl, _, HU.out.from HW.out, ?_⟩
   unfold EndsR stM slotAt
   rw [show spIdx s.m imm = z from HZZ.out, if_neg HNO.out]
   exact rfail_ends K0.out 5 0
  have hr : rslot s z = (s, z) := if_pos hok
  have hs1 := HS1.out
  have hy := HY.out
  rw [hr] at hs1 hy
  subst hs1 hy
  obtain ⟨k, hk⟩ : ∃ k : Nat, z = (k : Int) := ⟨z.toNat, by omega⟩
  subst hk
  have hkl : k < s.m.st.length := by omega
  obtain ⟨p2, c2, c24, hown⟩ := HW.out.stack
  obtain ⟨q2, hp, hq2, hcell⟩ := (own_src hown).resolve_left (fun h0 => by have h0 : s.m.st.length = 0 := h0; omega)
  subst hp
  have cx := hcell k (.int .u16 ((s.m.st[k]?).getD 0)) (by rw [List.getElem?_map, List.getElem?_eq_getElem hkl]; rfl)
  have HKL := Lib.hid hkl
  have HFA : Hid (∀ W, Below w.heap.size w W → W.cell? ⟨B, 24, none⟩ = some (.slice (some ⟨q2, 0, none⟩) s.m.st.length c2) ∧ W.cell? ⟨q2, k, none⟩ = some (.int .u16 ((s.m.st[k]?).getD 0)) ∧ W.cell? ⟨B, 7 + d, none⟩ = some (.int .u16 (s.m.R d)) ∧ W.frozen? ⟨B, 7 + d, none⟩ = false ∧ W.frozen? ⟨q2, k, none⟩ = false) := Lib.hid fun W hW => ⟨((hW.cell (p := ⟨B, 24, none⟩) HW.out.lt)).trans c24, (hW.cell (p := ⟨q2, k, none⟩) hq2).trans cx, (HW.out.next hW).cellR d HD.out, (HW.out.next hW).frz (7 + d), (hW.frozen (p := ⟨q2, k, none⟩) hq2).trans (own_frz hown k)⟩
  obtain ⟨i3, i1, i0⟩ := HC.out _ HW.out.2
  have j0 : (0 : Int) ≤ (k : Int) := by omega
  have j1 : (k : Int) < (s.m.st.length : Int) := by omega
  have HOW := Lib.hid hown
  clear hr hok hkl hcell cx hown c24 hq2
  go_upto_region 32 with (fail)
  clear i3 i1 i0
  refine' wp_region_flowR [[], [(169, 0)], [(170, 1)], [(171, 2)], [], [], [], [(175, 6)], [(174, 5)], [(177, 8)], [(178, 9)], [(179, 10), (176, 7)], [(180, 11)], [(172, 3), (173, 4)], [(169, 0), (170, 1), (171, 2), (172, 3), (173, 4), (174, 5), (175, 6), (176, 7), (177, 8), (178, 9), (179, 10), (180, 11), (181, 12), (182, 13)]] (relL [eqV _, eqV _, eqV _, eqV _, eqV _, eqV _, eqV _, eqV _, eqV _, eqV _, eqV _, eqV _, eqV _, eqV _]) (by kernel_rfl) (by kernel_rfl) ?_
  rotate_left 14
  iterate 14
   refine FlowR.step ?_ ?_
   ·intro V hV
    simp only [Dep, lQ]
    repeat rintro _ ⟨_, rfl, _⟩
    intro K hK
    obtain ⟨i3, i1, i0⟩ := HC.out _ (HW.out.2.next hV)
    obtain ⟨c24, cx, cR, zR, zq⟩ := HFA.out _ hV
    go_simp
    refine hK _ _ ?_ (Below.refl _ _)
    simp only [lR]
    exact rfl
  refine FlowR.last ?_
  intro V hV
  simp only [Dep, lQ]
  repeat rintro _ ⟨_, rfl, _⟩
  intro K hK
  obtain ⟨i3, i1, i0⟩ := HC.out _ (HW.out.2.next hV)
  obtain ⟨c24, cx, cR, zR, zq⟩ := HFA.out _ hV
  go_simp
  refine hK _ _ ?_
  generalize eA : World.setCell _ _ _ = WA
  have HQ := Lib.hid ((HW.out.next hV).setSt c24 HKL.out eA)
  clear hK hV eA i3 i1 i0 c24 cx cR zR zq
  go_wp2_with fail
  refine ends (v := .tuple #[]) (by simp [results, Tryz.results29]) rfl ⟨rfl, _, HU.out.from HQ.out, ?_⟩
  unfold EndsR stM slotAt
  rw [show spIdx s.m imm = (k : Int) from HZZ.out, if_pos ⟨by omega, by have := HKL.out; omega⟩]
  rfl
set_option maxRecDepth 20000 in
set_option maxHeartbeats 8000000 in
theorem st_ldf (h : RM b0 U E B g s V) (ok : s.m.Ok) (k0 : s.k = 0) (d : Nat) (hd : d < 8) (si imm aux bank size : Int) (hi : OkU16 imm) : Calls Tryz.prog 29 #[.pointer (some ⟨B, 0, none⟩), .agg #[.int .i64 162, .int .i64 (d : Int), .int .i64 si, .int .u16 imm, .int .u16 aux, .int .i64 bank, .int .i64 size]] V (LeavesR b0 U E B g s (ldM s.m (fpIdx s.m imm) d)) := by
 obtain ⟨HZ, HR, HU⟩ := box_z h 162 d si imm aux bank size
 have OK := Lib.hid ok
 have K0 := Lib.hid k0
 have HD := Lib.hid hd
 have HI := Lib.hid hi
 have d0 : (0 : Int) ≤ (d : Int) := by omega
 have d1 : (d : Int) < 8 := by omega
 clear h ok k0 hd hi
 go_enter Tryz.func29, Tryz.ntmps29
 go_upto_region 1 with (fail)
 generalize V.alloc _ = W0 at *
 obtain ⟨q, hq⟩ : ∃ q, V.heap.size = q := ⟨_, rfl⟩
 rw [hq] at HZ ⊢
 clear hq
 obtain ⟨i0, i1, i2, i3, i4, i5, i6⟩ := HZ.out.at (Kz.refl b0 W0)
 obtain ⟨p, c, c24, hown⟩ := HR.out.stack
 have HO := Lib.hid hown
 have c17 := HR.out.cell 17 (.int .u16 s.m.fp) (fun _ _ => rfl)
 obtain ⟨z, hz⟩ : ∃ z, s.m.fp + sgI imm = z := ⟨_, rfl⟩
 have HZZ := Lib.hid hz
 have xw : IntKind.i64.wrap imm = imm := IntWalk.i64_in _ (by have := HI.out.1; have := HI.out.2; omega)
 have xf : IntKind.i64.wrap s.m.fp = s.m.fp := IntWalk.i64_in _ (by have := OK.out.fp.1; have := OK.out.fp.2; omega)
 have xs : IntKind.i16.wrap imm = sgI imm := sgI_wrap _ HI.out.1 HI.out.2
 have xt : IntKind.i64.wrap (sgI imm) = sgI imm := IntWalk.i64_in _ (by have := sgI_bd9 imm HI.out; omega)
 have x1 : IntKind.i64.wrap ((s.m.st.length : Int) - 1) = (s.m.st.length : Int) - 1 := IntWalk.i64_in _ (by have := OK.out.len; omega)
 have xz : IntKind.i64.wrap (s.m.fp + sgI imm) = z := by
  have := sgI_bd9 imm HI.out
  have := OK.out.fp.1
  have := OK.out.fp.2
  have := HI.out.1
  have := HI.out.2
  have := OK.out.len
  rw [IntWalk.i64_in _ (by omega)]
  exact hz
 have HC : Hid (∀ W, Kz b0 W0 W → W.cell? ⟨q, 3, none⟩ = some (.int .u16 imm) ∧ W.cell? ⟨q, 1, none⟩ = some (.int .i64 (d : Int)) ∧ W.cell? ⟨q, 0, none⟩ = some (.int .i64 162)) := Lib.hid fun W hW => ⟨(HZ.out.at hW).2.2.2.1, (HZ.out.at hW).2.1, (HZ.out.at hW).1⟩
 have HC2 : Hid (∀ W, Below W0.heap.size W0 W → W.cell? ⟨B, 17, none⟩ = some (.int .u16 s.m.fp) ∧ W.cell? ⟨B, 24, none⟩ = some (.slice p s.m.st.length c)) := Lib.hid fun W hW => ⟨(hW.cell (p := ⟨B, 17, none⟩) HR.out.lt).trans c17, (hW.cell (p := ⟨B, 24, none⟩) HR.out.lt).trans c24⟩
 have HP := Lib.hid (fun V (h : RM b0 W0 E B g s V) => slot_z h z)
 obtain ⟨s1, hs1⟩ : ∃ s1, (rslot s z).1 = s1 := ⟨_, rfl⟩
 obtain ⟨y, hy⟩ : ∃ y, (rslot s z).2 = y := ⟨_, rfl⟩
 rw [hs1, hy] at HP
 have HS1 := Lib.hid hs1
 have HY := Lib.hid hy
 clear hs1 hy hz hown c17 c24
 go_upto_region 3 with (fail)
 clear i0 i1 i2 i3 i4 i5 i6
 refine' wp_region_flowT [2, 3, 4, 5, 6, 7, 8, 9, 10, 11] [12, 13] [[], [], [(11, 1)], [(12, 2)], [(13, 3)], [(14, 4)], [(15, 5)], [], [(17, 7)], [(18, 8)], [(19, 9)], [(16, 6), (20, 10)], [(10, 0), (21, 11)], [(22, 12)]] [(10, 0), (11, 1), (12, 2), (13, 3), (14, 4), (15, 5), (16, 6), (17, 7), (18, 8), (19, 9), (20, 10), (21, 11)] (relL [eqV _, eqV _, eqV _, eqV _, eqV _, eqV _, eqV _, eqV _, eqV _, eqV _, eqV _, eqV _, fun v V => True, fun v V => True]) [(12, _), (13, _)] (by kernel_rfl) (by kernel_rfl) rfl ?_ ?_
 rotate_left 12
 ·iterate 2
   refine FlowT.val (by decide) _ (fun _ _ => Iff.rfl) ?_ ?_
   ·simp only [DepP, lQ]
    repeat rintro _ ⟨_, rfl⟩
    intro V K hK
    go_simp
    exact hK
  iterate 10
   refine FlowT.mem (by decide) ?_ ?_
   ·intro V hV
    simp only [Dep, lQ]
    repeat rintro _ ⟨_, rfl, _⟩
    intro K hK
    obtain ⟨i3, i1, i0⟩ := HC.out _ ((Kz.refl b0 W0).next hV)
    obtain ⟨c17, c24⟩ := HC2.out _ hV
    go_simp
    refine hK _ _ ?_ (Below.refl _ _)
    simp only [lR]
    exact rfl
  iterate 2
   refine FlowT.store (by decide) rfl ?_
  exact FlowT.nil
 ·intro V hV
  simp only [Dep, lQ]
  repeat rintro _ ⟨_, rfl, _⟩
  have HV := Lib.hid (HR.out.next hV)
  clear hV
  intro K1 hK1
  go_simp
  go_at_call 51
  refine (HP.out _ HV.out).mono ?_
  rintro e w ⟨rfl, hw⟩
  refine hK1 _ _ ?_
  clear hK1 K1
  simp only [Act.put]
  have HW := Lib.hid hw
  clear hw
  intro K1 hK1
  go_simp
  refine hK1 _ _ ?_
  clear hK1 K1
  simp only [Act.put]
  unfold TailS
  by_cases hok : 0 ≤ z ∧ z < (s.m.st.length : Int)
  rotate_left
  ·have hr : rslot s z = (rfail s 5 0, -1) := if_neg hok
   have hs1 := HS1.out
   have hy := HY.out
   rw [hr] at hs1 hy
   subst hs1 hy
   have HNO := Lib.hid hok
   obtain ⟨i3, i1, i0⟩ := HC.out _ HW.out.2
   clear hr hok
   go_wp2_with fail
   refine ends (v := .tuple #[]) (by simp [results, Tryz.results29]) rfl ⟨rfl, _, HU.out.from HW.out, ?_⟩
   unfold EndsR ldM slotAt
   rw [show fpIdx s.m imm = z from HZZ.out, if_neg HNO.out]
   exact rfail_ends K0.out 5 0
  have hr : rslot s z = (s, z) := if_pos hok
  have hs1 := HS1.out
  have hy := HY.out
  rw [hr] at hs1 hy
  subst hs1 hy
  obtain ⟨k, hk⟩ : ∃ k : Nat, z = (k : Int) := ⟨z.toNat, by omega⟩
  subst hk
  have hkl : k < s.m.st.length := by omega
  obtain ⟨p2, c2, c24, hown⟩ := HW.out.stack
  obtain ⟨q2, hp, hq2, hcell⟩ := (own_src hown).resolve_left (fun h0 => by have h0 : s.m.st.length = 0 := h0; omega)
  subst hp
  have cx := hcell k (.int .u16 ((s.m.st[k]?).getD 0)) (by rw [List.getElem?_map, List.getElem?_eq_getElem hkl]; rfl)
  have HKL := Lib.hid hkl
  have HFA : Hid (∀ W, Below w.heap.size w W → W.cell? ⟨B, 24, none⟩ = some (.slice (some ⟨q2, 0, none⟩) s.m.st.length c2) ∧ W.cell? ⟨q2, k, none⟩ = some (.int .u16 ((s.m.st[k]?).getD 0)) ∧ W.cell? ⟨B, 7 + d, none⟩ = some (.int .u16 (s.m.R d)) ∧ W.frozen? ⟨B, 7 + d, none⟩ = false ∧ W.frozen? ⟨q2, k, none⟩ = false) := Lib.hid fun W hW => ⟨((hW.cell (p := ⟨B, 24, none⟩) HW.out.lt)).trans c24, (hW.cell (p := ⟨q2, k, none⟩) hq2).trans cx, (HW.out.next hW).cellR d HD.out, (HW.out.next hW).frz (7 + d), (hW.frozen (p := ⟨q2, k, none⟩) hq2).trans (own_frz hown k)⟩
  obtain ⟨i3, i1, i0⟩ := HC.out _ HW.out.2
  have j0 : (0 : Int) ≤ (k : Int) := by omega
  have j1 : (k : Int) < (s.m.st.length : Int) := by omega
  have HOW := Lib.hid hown
  clear hr hok hkl hcell cx hown c24 hq2
  go_upto_region 31 with (fail)
  clear i3 i1 i0
  refine' wp_region_flowR [[], [], [(156, 1)], [], [(158, 3)], [(159, 4)], [(160, 5)], [], [(161, 6), (162, 7)], [(163, 8)], [(155, 0)], [(165, 10)], [(166, 11)], [(167, 12), (157, 2)], [(155, 0), (156, 1), (157, 2), (158, 3), (159, 4), (160, 5), (161, 6), (162, 7), (163, 8), (164, 9), (165, 10), (166, 11), (167, 12), (168, 13)]] (relL [eqV _, eqV _, eqV _, eqV _, eqV _, eqV _, eqV _, eqV _, eqV _, eqV _, eqV _, eqV _, eqV _, eqV _]) (by kernel_rfl) (by kernel_rfl) ?_
  rotate_left 14
  iterate 14
   refine FlowR.step ?_ ?_
   ·intro V hV
    simp only [Dep, lQ]
    repeat rintro _ ⟨_, rfl, _⟩
    intro K hK
    obtain ⟨i3, i1, i0⟩ := HC.out _ (HW.out.2.next hV)
    obtain ⟨c24, cx, cR, zR, zq⟩ := HFA.out _ hV
    go_simp
    refine hK _ _ ?_ (Below.refl _ _)
    simp only [lR]
    exact rfl
  refine FlowR.last ?_
  intro V hV
  simp only [Dep, lQ]
  repeat rintro _ ⟨_, rfl, _⟩
  intro K hK
  obtain ⟨i3, i1, i0⟩ := HC.out _ (HW.out.2.next hV)
  obtain ⟨c24, cx, cR, zR, zq⟩ := HFA.out _ hV
  go_simp
  refine hK _ _ ?_
  generalize eA : World.setCell _ _ _ = WA
  have HQ := Lib.hid ((HW.out.next hV).putR d HD.out _ eA)
  clear hK hV eA i3 i1 i0 c24 cx cR zR zq
  go_wp2_with fail
  refine ends (v := .tuple #[]) (by simp [results, Tryz.results29]) rfl ⟨rfl, _, HU.out.from HQ.out, ?_⟩
  unfold EndsR ldM slotAt
  rw [show fpIdx s.m imm = (k : Int) from HZZ.out, if_pos ⟨by omega, by have := HKL.out; omega⟩]
  rfl
set_option maxRecDepth 20000 in
set_option maxHeartbeats 8000000 in
theorem st_stf (h : RM b0 U E B g s V) (ok : s.m.Ok) (k0 : s.k = 0) (d : Nat) (hd : d < 8) (si imm aux bank size : Int) (hi : OkU16 imm) : Calls Tryz.prog 29 #[.pointer (some ⟨B, 0, none⟩), .agg #[.int .i64 163, .int .i64 (d : Int), .int .i64 si, .int .u16 imm, .int .u16 aux, .int .i64 bank, .int .i64 size]] V (LeavesR b0 U E B g s (stM s.m (fpIdx s.m imm) d)) := by
 obtain ⟨HZ, HR, HU⟩ := box_z h 163 d si imm aux bank size
 have OK := Lib.hid ok
 have K0 := Lib.hid k0
 have HD := Lib.hid hd
 have HI := Lib.hid hi
 have d0 : (0 : Int) ≤ (d : Int) := by omega
 have d1 : (d : Int) < 8 := by omega
 clear h ok k0 hd hi
 go_enter Tryz.func29, Tryz.ntmps29
 go_upto_region 1 with (fail)
 generalize V.alloc _ = W0 at *
 obtain ⟨q, hq⟩ : ∃ q, V.heap.size = q := ⟨_, rfl⟩
 rw [hq] at HZ ⊢
 clear hq
 obtain ⟨i0, i1, i2, i3, i4, i5, i6⟩ := HZ.out.at (Kz.refl b0 W0)
 obtain ⟨p, c, c24, hown⟩ := HR.out.stack
 have HO := Lib.hid hown
 have c17 := HR.out.cell 17 (.int .u16 s.m.fp) (fun _ _ => rfl)
 obtain ⟨z, hz⟩ : ∃ z, s.m.fp + sgI imm = z := ⟨_, rfl⟩
 have HZZ := Lib.hid hz
 have xw : IntKind.i64.wrap imm = imm := IntWalk.i64_in _ (by have := HI.out.1; have := HI.out.2; omega)
 have xf : IntKind.i64.wrap s.m.fp = s.m.fp := IntWalk.i64_in _ (by have := OK.out.fp.1; have := OK.out.fp.2; omega)
 have xs : IntKind.i16.wrap imm = sgI imm := sgI_wrap _ HI.out.1 HI.out.2
 have xt : IntKind.i64.wrap (sgI imm) = sgI imm := IntWalk.i64_in _ (by have := sgI_bd9 imm HI.out; omega)
 have x1 : IntKind.i64.wrap ((s.m.st.length : Int) - 1) = (s.m.st.length : Int) - 1 := IntWalk.i64_in _ (by have := OK.out.len; omega)
 have xz : IntKind.i64.wrap (s.m.fp + sgI imm) = z := by
  have := sgI_bd9 imm HI.out
  have := OK.out.fp.1
  have := OK.out.fp.2
  have := HI.out.1
  have := HI.out.2
  have := OK.out.len
  rw [IntWalk.i64_in _ (by omega)]
  exact hz
 have HC : Hid (∀ W, Kz b0 W0 W → W.cell? ⟨q, 3, none⟩ = some (.int .u16 imm) ∧ W.cell? ⟨q, 1, none⟩ = some (.int .i64 (d : Int)) ∧ W.cell? ⟨q, 0, none⟩ = some (.int .i64 163)) := Lib.hid fun W hW => ⟨(HZ.out.at hW).2.2.2.1, (HZ.out.at hW).2.1, (HZ.out.at hW).1⟩
 have HC2 : Hid (∀ W, Below W0.heap.size W0 W → W.cell? ⟨B, 17, none⟩ = some (.int .u16 s.m.fp) ∧ W.cell? ⟨B, 24, none⟩ = some (.slice p s.m.st.length c)) := Lib.hid fun W hW => ⟨(hW.cell (p := ⟨B, 17, none⟩) HR.out.lt).trans c17, (hW.cell (p := ⟨B, 24, none⟩) HR.out.lt).trans c24⟩
 have HP := Lib.hid (fun V (h : RM b0 W0 E B g s V) => slot_z h z)
 obtain ⟨s1, hs1⟩ : ∃ s1, (rslot s z).1 = s1 := ⟨_, rfl⟩
 obtain ⟨y, hy⟩ : ∃ y, (rslot s z).2 = y := ⟨_, rfl⟩
 rw [hs1, hy] at HP
 have HS1 := Lib.hid hs1
 have HY := Lib.hid hy
 clear hs1 hy hz hown c17 c24
 go_upto_region 3 with (fail)
 clear i0 i1 i2 i3 i4 i5 i6
 refine' wp_region_flowT [2, 3, 4, 5, 6, 7, 8, 9, 10, 11] [12, 13] [[], [], [(11, 1)], [(12, 2)], [(13, 3)], [(14, 4)], [(15, 5)], [], [(17, 7)], [(18, 8)], [(19, 9)], [(16, 6), (20, 10)], [(10, 0), (21, 11)], [(22, 12)]] [(10, 0), (11, 1), (12, 2), (13, 3), (14, 4), (15, 5), (16, 6), (17, 7), (18, 8), (19, 9), (20, 10), (21, 11)] (relL [eqV _, eqV _, eqV _, eqV _, eqV _, eqV _, eqV _, eqV _, eqV _, eqV _, eqV _, eqV _, fun v V => True, fun v V => True]) [(12, _), (13, _)] (by kernel_rfl) (by kernel_rfl) rfl ?_ ?_
 rotate_left 12
 ·iterate 2
   refine FlowT.val (by decide) _ (fun _ _ => Iff.rfl) ?_ ?_
   ·simp only [DepP, lQ]
    repeat rintro _ ⟨_, rfl⟩
    intro V K hK
    go_simp
    exact hK
  iterate 10
   refine FlowT.mem (by decide) ?_ ?_
   ·intro V hV
    simp only [Dep, lQ]
    repeat rintro _ ⟨_, rfl, _⟩
    intro K hK
    obtain ⟨i3, i1, i0⟩ := HC.out _ ((Kz.refl b0 W0).next hV)
    obtain ⟨c17, c24⟩ := HC2.out _ hV
    go_simp
    refine hK _ _ ?_ (Below.refl _ _)
    simp only [lR]
    exact rfl
  iterate 2
   refine FlowT.store (by decide) rfl ?_
  exact FlowT.nil
 ·intro V hV
  simp only [Dep, lQ]
  repeat rintro _ ⟨_, rfl, _⟩
  have HV := Lib.hid (HR.out.next hV)
  clear hV
  intro K1 hK1
  go_simp
  go_at_call 51
  refine (HP.out _ HV.out).mono ?_
  rintro e w ⟨rfl, hw⟩
  refine hK1 _ _ ?_
  clear hK1 K1
  simp only [Act.put]
  have HW := Lib.hid hw
  clear hw
  intro K1 hK1
  go_simp
  refine hK1 _ _ ?_
  clear hK1 K1
  simp only [Act.put]
  unfold TailS
  by_cases hok : 0 ≤ z ∧ z < (s.m.st.length : Int)
  rotate_left
  ·have hr : rslot s z = (rfail s 5 0, -1) := if_neg hok
   have hs1 := HS1.out
   have hy := HY.out
   rw [hr] at hs1 hy
   subst hs1 hy
   have HNO := Lib.hid hok
   obtain ⟨i3, i1, i0⟩ := HC.out _ HW.out.2
   clear hr hok
   go_wp2_with fail
   refine ends (v := .tuple #[]) (by simp [results, Tryz.results29]) rfl ⟨rfl, _, HU.out.from HW.out, ?_⟩
   unfold EndsR stM slotAt
   rw [show fpIdx s.m imm = z from HZZ.out, if_neg HNO.out]
   exact rfail_ends K0.out 5 0
  have hr : rslot s z = (s, z) := if_pos hok
  have hs1 := HS1.out
  have hy := HY.out
  rw [hr] at hs1 hy
  subst hs1 hy
  obtain ⟨k, hk⟩ : ∃ k : Nat, z = (k : Int) := ⟨z.toNat, by omega⟩
  subst hk
  have hkl : k < s.m.st.length := by omega
  obtain ⟨p2, c2, c24, hown⟩ := HW.out.stack
  obtain ⟨q2, hp, hq2, hcell⟩ := (own_src hown).resolve_left (fun h0 => by have h0 : s.m.st.length = 0 := h0; omega)
  subst hp
  have cx := hcell k (.int .u16 ((s.m.st[k]?).getD 0)) (by rw [List.getElem?_map, List.getElem?_eq_getElem hkl]; rfl)
  have HKL := Lib.hid hkl
  have HFA : Hid (∀ W, Below w.heap.size w W → W.cell? ⟨B, 24, none⟩ = some (.slice (some ⟨q2, 0, none⟩) s.m.st.length c2) ∧ W.cell? ⟨q2, k, none⟩ = some (.int .u16 ((s.m.st[k]?).getD 0)) ∧ W.cell? ⟨B, 7 + d, none⟩ = some (.int .u16 (s.m.R d)) ∧ W.frozen? ⟨B, 7 + d, none⟩ = false ∧ W.frozen? ⟨q2, k, none⟩ = false) := Lib.hid fun W hW => ⟨((hW.cell (p := ⟨B, 24, none⟩) HW.out.lt)).trans c24, (hW.cell (p := ⟨q2, k, none⟩) hq2).trans cx, (HW.out.next hW).cellR d HD.out, (HW.out.next hW).frz (7 + d), (hW.frozen (p := ⟨q2, k, none⟩) hq2).trans (own_frz hown k)⟩
  obtain ⟨i3, i1, i0⟩ := HC.out _ HW.out.2
  have j0 : (0 : Int) ≤ (k : Int) := by omega
  have j1 : (k : Int) < (s.m.st.length : Int) := by omega
  have HOW := Lib.hid hown
  clear hr hok hkl hcell cx hown c24 hq2
  go_upto_region 32 with (fail)
  clear i3 i1 i0
  refine' wp_region_flowR [[], [(169, 0)], [(170, 1)], [(171, 2)], [], [], [], [(175, 6)], [(174, 5)], [(177, 8)], [(178, 9)], [(179, 10), (176, 7)], [(180, 11)], [(172, 3), (173, 4)], [(169, 0), (170, 1), (171, 2), (172, 3), (173, 4), (174, 5), (175, 6), (176, 7), (177, 8), (178, 9), (179, 10), (180, 11), (181, 12), (182, 13)]] (relL [eqV _, eqV _, eqV _, eqV _, eqV _, eqV _, eqV _, eqV _, eqV _, eqV _, eqV _, eqV _, eqV _, eqV _]) (by kernel_rfl) (by kernel_rfl) ?_
  rotate_left 14
  iterate 14
   refine FlowR.step ?_ ?_
   ·intro V hV
    simp only [Dep, lQ]
    repeat rintro _ ⟨_, rfl, _⟩
    intro K hK
    obtain ⟨i3, i1, i0⟩ := HC.out _ (HW.out.2.next hV)
    obtain ⟨c24, cx, cR, zR, zq⟩ := HFA.out _ hV
    go_simp
    refine hK _ _ ?_ (Below.refl _ _)
    simp only [lR]
    exact rfl
  refine FlowR.last ?_
  intro V hV
  simp only [Dep, lQ]
  repeat rintro _ ⟨_, rfl, _⟩
  intro K hK
  obtain ⟨i3, i1, i0⟩ := HC.out _ (HW.out.2.next hV)
  obtain ⟨c24, cx, cR, zR, zq⟩ := HFA.out _ hV
  go_simp
  refine hK _ _ ?_
  generalize eA : World.setCell _ _ _ = WA
  have HQ := Lib.hid ((HW.out.next hV).setSt c24 HKL.out eA)
  clear hK hV eA i3 i1 i0 c24 cx cR zR zq
  go_wp2_with fail
  refine ends (v := .tuple #[]) (by simp [results, Tryz.results29]) rfl ⟨rfl, _, HU.out.from HQ.out, ?_⟩
  unfold EndsR stM slotAt
  rw [show fpIdx s.m imm = (k : Int) from HZZ.out, if_pos ⟨by omega, by have := HKL.out; omega⟩]
  rfl
end Go.Proofs.YtieaicdihingkaaGreat
