/- The reference's machine: control. -/
import Derived.Test.YtieaicdihingkaaGreatZ8
namespace Go.Proofs.YtieaicdihingkaaGreat
set_option linter.unusedVariables false
set_option linter.unusedSimpArgs false
open Go.RowKit
variable {b0 : Nat} {U V : World} {E : Env} {B g : Nat} {s : RSt}
set_option maxHeartbeats 1000000 in
theorem rcond_any (cc f : Int) (w : World) (f0 : 0 ≤ f) (f1 : f < 65536) (c0 : -9223372036854775808 ≤ cc) (c1 : cc ≤ 9223372036854775807) :
  Calls Tryz.prog 60 #[.int .i64 cc, .int .u16 f] w fun e w' => e = .returned (.bool (condI cc f)) ∧ w = w' := by
 have hC : condI cc f = condB cc (fz f) (fn f) (fc f) (fv f) := rfl
 rw [hC]; clear hC
 have m1 : f.tmod 2 = f % 2 := Int.tmod_eq_emod_of_nonneg f0
 have d2 := div_in f 2 f0 f1 (by omega)
 have d4 := div_in f 4 f0 f1 (by omega)
 have d8 := div_in f 8 f0 f1 (by omega)
 have m2 : (f / 2).tmod 2 = f / 2 % 2 := Int.tmod_eq_emod_of_nonneg (by omega)
 have m4 : (f / 4).tmod 2 = f / 4 % 2 := Int.tmod_eq_emod_of_nonneg (by omega)
 have m8 : (f / 8).tmod 2 = f / 8 % 2 := Int.tmod_eq_emod_of_nonneg (by omega)
 have hz : (f % 2 == 1) = fz f := rfl
 have hn : (f / 2 % 2 == 1) = fn f := rfl
 have hc : (f / 4 % 2 == 1) = fc f := rfl
 have hv : (f / 8 % 2 == 1) = fv f := rfl
 generalize fz f = z at *
 generalize fc f = c at *
 generalize fn f = n at *
 generalize fv f = v at *
 rcases cc_cases cc with h | rfl | rfl | rfl | rfl | rfl | rfl | rfl | rfl | rfl | rfl | rfl | rfl | rfl | rfl
 ·have hb : condB cc z n c v = false := by
   have := h
   unfold condB; repeat (rw [if_neg (by omega)])
  rw [hb]; clear hb
  go_enter Tryz.func60, Tryz.ntmps60
  go_wp2
  all_goals
   go_ret
   exact ⟨rfl, rfl⟩
 all_goals
  go_enter Tryz.func60, Tryz.ntmps60
  go_wp2
  all_goals
   go_ret
   refine ⟨ret_bool ?_, rfl⟩
   clear hz hn hc hv
   simp_all [condB, bne]
/-- A state that fails once n words have been popped. -/
def Short (n : Nat) (s : RSt) : Prop := (s.k = 5 ∧ s.i = 0) ∨ (s.k = 0 ∧ s.m.st.length < n)
theorem Short.pop {n : Nat} {s : RSt} (h : Short (n + 1) s) : Short n (rpop s).1 := by
 unfold rpop
 rcases h with h | ⟨h1, h2⟩
 ·cases e : s.m.st.getLast? with
  | none => refine .inl ?_; dsimp only; rw [rfail_stay (by rw [h.1]; decide)]; exact h
  | some x => exact .inl h
 ·cases e : s.m.st.getLast? with
  | none => exact .inl (rfail_ends h1 5 0)
  | some x =>
   refine .inr ⟨h1, ?_⟩
   have : s.m.st ≠ [] := fun h => by rw [h] at e; cases e
   have := List.length_pos_iff.mpr this
   simp [setSt]
   omega
theorem Short.zero {s : RSt} (h : Short 0 s) : s.k = 5 ∧ s.i = 0 := h.elim id fun h => absurd h.2 (Nat.not_lt_zero _)
theorem rpop_ok (s : RSt) (h : ∀ x ∈ s.m.st, OkU16 x) : OkU16 (rpop s).2 ∧ ∀ x ∈ (rpop s).1.m.st, OkU16 x := by
 unfold rpop
 cases e : s.m.st.getLast? with
 | none => exact ⟨show OkU16 0 from ⟨by decide, by decide⟩, by dsimp only; rw [rfail_st]; exact h⟩
 | some x => exact ⟨h x (List.mem_of_getLast? e), fun y hy => h y (List.dropLast_subset _ hy)⟩
theorem rpush_le {s : RSt} {n : Nat} (h : s.m.st.length + n < 4096) (x : Int) : rpush s x = { s with m := setSt s.m (s.m.st ++ [x]) } := if_neg (by omega)
theorem RM.put15 {b0 : Nat} {U V W : World} {E : Env} {B g : Nat} {s : RSt} (h : RM b0 U E B g s V) {x : Int} (e : V.setCell ⟨B, 15, none⟩ (.int .u16 x) = W) : RM b0 U E B g { s with m := { s.m with pc := x } } W := h.put 15 _ e (fun _ _ => rfl) rfl rfl rfl
theorem RM.put17 {b0 : Nat} {U V W : World} {E : Env} {B g : Nat} {s : RSt} (h : RM b0 U E B g s V) {x : Int} (e : V.setCell ⟨B, 17, none⟩ (.int .u16 x) = W) : RM b0 U E B g { s with m := { s.m with fp := x } } W := h.put 17 _ e (fun _ _ => rfl) rfl rfl rfl
theorem RM.put18 {b0 : Nat} {U V W : World} {E : Env} {B g : Nat} {s : RSt} (h : RM b0 U E B g s V) {x : Int} (e : V.setCell ⟨B, 18, none⟩ (.int .u16 x) = W) : RM b0 U E B g { s with m := { s.m with f := x } } W := h.put 18 _ e (fun _ _ => rfl) rfl rfl rfl
theorem RM.put19 {b0 : Nat} {U V W : World} {E : Env} {B g : Nat} {s : RSt} (h : RM b0 U E B g s V) {x : Int} (e : V.setCell ⟨B, 19, none⟩ (.int .i64 x) = W) : RM b0 U E B g { s with m := { s.m with bank := x } } W := h.put 19 _ e (fun _ _ => rfl) rfl rfl rfl
theorem rjump_eq {E : Env} {s : RSt} (h0 : s.k = 0) (a : Int) (ha : OkU16 a) : EndsR s (tableM E s.m a) (rjump E s a) := by
 unfold rjump tableM EndsR
 rw [rcode_eq E s.m a ha, rcode_eq E s.m _ ⟨by omega, by omega⟩]
 cases codeM E s.m a with
 | none => exact rfail_ends h0 2 a
 | some lo => cases codeM E s.m ((a + 1) % 65536) with
  | none => exact rfail_ends h0 2 _
  | some hi => rfl
set_option maxRecDepth 20000 in
set_option maxHeartbeats 8000000 in
theorem ct_ret (h : RM b0 U E B g s V) (ok : s.m.Ok) (k0 : s.k = 0) (d : Nat) (hd : d < 8) (si imm aux bank size : Int) (hi : OkU16 imm) (hs : s.m.st.length < 12) : Calls Tryz.prog 33 #[.pointer (some ⟨B, 0, none⟩), .agg #[.int .i64 1, .int .i64 (d : Int), .int .i64 si, .int .u16 imm, .int .u16 aux, .int .i64 bank, .int .i64 size], .int .u16 s.m.pc] V (LeavesR b0 U E B g s (retM s.m)) := by
 obtain ⟨HZ, HR, HU⟩ := box_z h 1 d si imm aux bank size
 have OK := Lib.hid ok
 have K0 := Lib.hid k0
 have HD := Lib.hid hd
 have HI := Lib.hid hi
 have HL := Lib.hid hs
 have d0 : (0 : Int) ≤ (d : Int) := by omega
 have d1 : (d : Int) < 8 := by omega
 clear h ok k0 hd hi hs
 obtain ⟨pc, hpc⟩ : ∃ pc, s.m.pc = pc := ⟨_, rfl⟩
 have HPC := Lib.hid hpc
 rw [hpc]
 clear hpc
 go_enter Tryz.func33, Tryz.ntmps33
 go_upto_region 1 with (fail)
 generalize V.alloc _ = W0 at *
 obtain ⟨q, hq⟩ : ∃ q, V.heap.size = q := ⟨_, rfl⟩
 rw [hq] at HZ ⊢
 clear hq
 obtain ⟨i0, i1, i2, i3, i4, i5, i6⟩ := HZ.out.at (Kz.refl b0 W0)
 go_wp2_with fail
 refine (pop_z (HR.out) (by have := HL.out; omega)).mono ?_
 obtain ⟨t1, ht1⟩ : ∃ t, t = (rpop s).1 := ⟨_, rfl⟩
 obtain ⟨x1, hx1⟩ : ∃ x, x = (rpop s).2 := ⟨_, rfl⟩
 rw [← ht1, ← hx1]
 rintro e w ⟨rfl, hw⟩
 have HW1 := Lib.hid hw
 clear hw
 have HT1 := Lib.hid ht1
 have HX1 := Lib.hid hx1
 have l1 : t1.m.st.length ≤ s.m.st.length := by rw [ht1]; exact rpop_len s
 have HL1 := Lib.hid l1
 have c15 := HW1.out.cell 15 (.int .u16 t1.m.pc) (fun _ _ => rfl)
 have z15 := HW1.out.frz 15
 clear ht1 hx1 l1 i0 i1 i2 i3 i4 i5 i6
 go_upto_region 7 with (fail)
 generalize eA : World.setCell _ _ _ = WA
 have HA := Lib.hid (HW1.out.put (s' := { t1 with m := { t1.m with pc := x1 } }) 15 _ eA (fun _ _ => rfl) rfl rfl rfl)
 clear eA c15 z15
 go_wp2_with fail
 refine (pop_z (HA.out) (by have := HL1.out; have := HL.out; dsimp only; omega)).mono ?_
 obtain ⟨t2, ht2⟩ : ∃ t, t = (rpop { t1 with m := { t1.m with pc := x1 } }).1 := ⟨_, rfl⟩
 obtain ⟨x2, hx2⟩ : ∃ x, x = (rpop { t1 with m := { t1.m with pc := x1 } }).2 := ⟨_, rfl⟩
 rw [← ht2, ← hx2]
 rintro e w ⟨rfl, hw⟩
 have HW2 := Lib.hid hw
 clear hw
 have HT2 := Lib.hid ht2
 have HX2 := Lib.hid hx2
 have hx : OkU16 x2 := by
  have h9 := (rpop_ok s OK.out.st).2
  rw [← HT1.out] at h9
  rw [hx2]
  exact (rpop_ok { t1 with m := { t1.m with pc := x1 } } h9).1
 unfold OkU16 at hx
 have q1 : x2.tmod 64 = x2 % 64 := Int.tmod_eq_emod_of_nonneg hx.1
 have q2 : IntKind.u16.wrap (x2 % 64) = x2 % 64 := by rw [IntKind.wrap_u16]; omega
 have q3 : IntKind.i64.wrap (x2 % 64) = x2 % 64 := IntWalk.i64_in _ (by omega)
 have c19 := HW2.out.cell 19 (.int .i64 t2.m.bank) (fun _ _ => rfl)
 have z19 := HW2.out.frz 19
 have HZ2 := Lib.hid (HZ.out.at (HW2.out.2))
 clear ht2 hx2 hx
 go_upto_region 31 with (fail)
 generalize eA : World.setCell _ _ _ = WB
 have HB := Lib.hid (HW2.out.put (s' := { t2 with m := { t2.m with bank := x2 % 64 } }) 19 _ eA (fun _ _ => rfl) rfl rfl rfl)
 obtain ⟨i0, i1, i2, i3, i4, i5, i6⟩ := HZ.out.at HB.out.2
 clear eA c19 z19 q1 q2 q3 HZ2
 go_wp2_with fail
 refine ends (v := .tuple #[]) (by simp [results, Tryz.results33]) rfl ⟨rfl, _, HU.out.from HB.out, ?_⟩
 unfold EndsR retM
 by_cases hl : 2 ≤ s.m.st.length
 ·rw [if_pos hl]
  have h1 := popsN_ok s 1 (by omega)
  have h2 := popsN_ok s 2 hl
  obtain ⟨l, y1, hy⟩ : ∃ l y, s.m.st = l ++ [y] := by
   rcases List.eq_nil_or_concat s.m.st with h | ⟨l, y, h⟩
   ·rw [h] at hl; simp at hl
   ·exact ⟨l, y, by simpa using h⟩
  obtain ⟨l2, y2, hy2⟩ : ∃ l2 y, l = l2 ++ [y] := by
   rcases List.eq_nil_or_concat l with h | ⟨l, y, h⟩
   ·rw [hy, h] at hl; simp at hl
   ·exact ⟨l, y, by simpa using h⟩
  subst hy2
  rw [HX2.out, HT2.out]
  have e1 : rpop s = ({ s with m := setSt s.m (l2 ++ [y2]) }, y1) := by unfold rpop; rw [hy]; simp
  rw [HT1.out, HX1.out, e1]
  unfold rpop nth
  simp [setSt, hy]
 ·rw [if_neg hl]
  have a0 : Short 2 s := .inr ⟨K0.out, by omega⟩
  have a1 : Short 1 t1 := by rw [HT1.out]; exact a0.pop
  have a2 : Short 1 { t1 with m := { t1.m with pc := x1 } } := a1
  have a3 := a2.pop
  rw [← HT2.out] at a3
  exact a3.zero
set_option maxRecDepth 20000 in
set_option maxHeartbeats 8000000 in
theorem ct_iret (h : RM b0 U E B g s V) (ok : s.m.Ok) (k0 : s.k = 0) (d : Nat) (hd : d < 8) (si imm aux bank size : Int) (hi : OkU16 imm) (hs : s.m.st.length < 12) : Calls Tryz.prog 33 #[.pointer (some ⟨B, 0, none⟩), .agg #[.int .i64 3, .int .i64 (d : Int), .int .i64 si, .int .u16 imm, .int .u16 aux, .int .i64 bank, .int .i64 size], .int .u16 s.m.pc] V (LeavesR b0 U E B g s (iretM s.m)) := by
 obtain ⟨HZ, HR, HU⟩ := box_z h 3 d si imm aux bank size
 have OK := Lib.hid ok
 have K0 := Lib.hid k0
 have HD := Lib.hid hd
 have HI := Lib.hid hi
 have HL := Lib.hid hs
 have d0 : (0 : Int) ≤ (d : Int) := by omega
 have d1 : (d : Int) < 8 := by omega
 clear h ok k0 hd hi hs
 obtain ⟨pc, hpc⟩ : ∃ pc, s.m.pc = pc := ⟨_, rfl⟩
 have HPC := Lib.hid hpc
 rw [hpc]
 clear hpc
 go_enter Tryz.func33, Tryz.ntmps33
 go_upto_region 1 with (fail)
 generalize V.alloc _ = W0 at *
 obtain ⟨q, hq⟩ : ∃ q, V.heap.size = q := ⟨_, rfl⟩
 rw [hq] at HZ ⊢
 clear hq
 obtain ⟨i0, i1, i2, i3, i4, i5, i6⟩ := HZ.out.at (Kz.refl b0 W0)
 have HY : Hid (Short 12 s) := Lib.hid (.inr ⟨K0.out, HL.out⟩)
 have HLE : Hid (s.m.st.length ≤ 4096) := Lib.hid OK.out.len
 go_wp2_with fail
 clear i0 i1 i2 i3 i4 i5 i6
 go_loopw [6] (fun k_ wr => ∃ (j : Nat) (t : RSt), j ≤ 8 ∧ k_ = .int .i64 (7 - (j : Int)) ∧ RM b0 W0 E B g t wr ∧ Short (12 - j) t ∧ t.m.st.length ≤ 4096) (fun k_ _ => (intOf k_ + 1).toNat)
 case atStart => exact ⟨0, s, by omega, rfl, HR.out, HY.out, HLE.out⟩
 case round =>
  obtain ⟨j, t, hj, rfl, hrm, hsh, hlen⟩ := hrel
  have HT := Lib.hid hrm
  have HLEN := Lib.hid hlen
  by_cases hj8 : j < 8
  ·obtain ⟨k, hk, hk8⟩ : ∃ k : Nat, 7 - (j : Int) = (k : Int) ∧ k < 8 := ⟨7 - j, by omega, by omega⟩
   have HK := Lib.hid hk
   have HK8 := Lib.hid hk8
   have HS : Hid (Short (12 - (j + 1)) (rpop t).1) := Lib.hid (by rw [show 12 - j = 12 - (j + 1) + 1 by omega] at hsh; exact hsh.pop)
   rw [hk]
   obtain ⟨t1, ht1⟩ : ∃ t1, (rpop t).1 = t1 := ⟨_, rfl⟩
   obtain ⟨x, hx⟩ : ∃ x, (rpop t).2 = x := ⟨_, rfl⟩
   have HL1 : Hid (t1.m.st.length ≤ 4096) := Lib.hid (by rw [← ht1]; exact Nat.le_trans (rpop_len t) hlen)
   have HP : Hid (∀ W, RM b0 wr E B g t W → Calls Tryz.prog 50 #[.pointer (some ⟨B, 0, none⟩)] W (LeavesV b0 wr E B g t1 (.int .u16 x))) := Lib.hid fun W hW => by
    have h9 := pop_z hW (by omega)
    rw [ht1, hx] at h9
    exact h9
   rw [ht1] at HS
   have HRW : Hid (RM b0 wr E B g t wr) := Lib.hid hrm.over
   have k0 : (0 : Int) ≤ (k : Int) := by omega
   have k1 : (k : Int) < 8 := by omega
   have t0 : decide ((0 : Int) ≤ (k : Int)) = true := decide_eq_true k0
   clear ht1 hx hj hj8 hrm hsh hlen hk hk8
   go_upto_region 12 with (fail)
   refine wp_region_flowW (S0 := fun W => Below wr.heap.size wr W) (S1 := fun W => RM b0 wr E B g t1 W) (Z := fun _ _ => False) 3 (by kernel_rfl) (by kernel_rfl) (by kernel_rfl) (Below.drew (Below.refl _ _)) (fun chain b w' hd hz => hz.elim) ?_
   iterate 3
    apply FlowW.step
    ·intro V3 K hS hK
     go_simp
     exact hK
    simp only [lQ]
   refine FlowW.call ?_ rfl ?_ ?_
   rotate_left
   ·intro V3 K hS hK
    go_simp
    go_at_call 50
    refine (HP.out _ (HRW.out.next hS)).mono ?_
    rintro e w9 ⟨rfl, h9⟩
    exact hK _ h9
   simp only [lQ]
   iterate 4
    apply FlowW.after
    ·intro V3 K hS hK
     go_simp
     exact hK
    simp only [lQ]
   refine FlowW.last ?_
   intro V3 K hS hK
   have cR := hS.cellR k HK8.out
   have zR := hS.frz (7 + k)
   go_simp
   refine hK _ _ ?_
   have HW := Lib.hid (HT.out.from (hS.putR k HK8.out x rfl))
   clear hS hK cR zR
   have xw : IntKind.i64.wrap ((k : Int) - 1) = 7 - ((j + 1 : Nat) : Int) := by have := HK.out; have := HK8.out; rw [IntWalk.i64_in _ (by omega)]; omega
   go_wp2_with fail
   go_roundw
   case rel => exact ⟨j + 1, _, by have := HK.out; omega, rfl, HW.out, HS.out, HL1.out⟩
   case measure => have := HK.out; have := HK8.out; simp only [intOf]; omega
  ·obtain rfl : j = 8 := by omega
   rw [show 7 - ((8 : Nat) : Int) = -1 from rfl]
   have HS : Hid (Short 4 t) := Lib.hid hsh
   clear hj hj8 hrm hsh hlen
   go_wp2_with fail
   refine (pop_z HT.out (Nat.le_trans HLEN.out (by decide))).mono ?_
   have hp := Short.pop (n := 3) (s := t) HS.out
   have hl := Nat.le_trans (rpop_len (t)) HLEN.out
   generalize (rpop (t)).1 = t0 at hp hl ⊢
   generalize (rpop (t)).2 = x0 at hp hl ⊢
   rintro e w ⟨rfl, hw⟩
   have HW0 := Lib.hid hw
   have HS0 := Lib.hid hp
   have HL0 : Hid (t0.m.st.length ≤ 4096) := Lib.hid hl
   have c17 := hw.cell 17 (.int .u16 t0.m.fp) (fun _ _ => rfl)
   have z17 := hw.frz 17
   clear hw hp hl
   go_upto_region 14 with (fail)
   generalize eA : World.setCell _ _ _ = W1
   obtain ⟨y0, HA0⟩ : ∃ y, Hid (RM b0 W0 E B g { t0 with m := { t0.m with fp := y } } W1) := ⟨_, Lib.hid (HW0.out.put17 eA)⟩
   clear eA c17 z17
   go_wp2_with fail
   refine (pop_z HA0.out (Nat.le_trans HL0.out (by decide))).mono ?_
   have hp := Short.pop (n := 2) (s := { t0 with m := { t0.m with fp := y0 } }) HS0.out
   have hl := Nat.le_trans (rpop_len ({ t0 with m := { t0.m with fp := y0 } })) HL0.out
   generalize (rpop ({ t0 with m := { t0.m with fp := y0 } })).1 = t1 at hp hl ⊢
   generalize (rpop ({ t0 with m := { t0.m with fp := y0 } })).2 = x1 at hp hl ⊢
   rintro e w ⟨rfl, hw⟩
   have HW1 := Lib.hid hw
   have HS1 := Lib.hid hp
   have HL1 : Hid (t1.m.st.length ≤ 4096) := Lib.hid hl
   have c18 := hw.cell 18 (.int .u16 t1.m.f) (fun _ _ => rfl)
   have z18 := hw.frz 18
   clear hw hp hl
   go_upto_region 15 with (fail)
   generalize eA : World.setCell _ _ _ = W2
   obtain ⟨y1, HA1⟩ : ∃ y, Hid (RM b0 W0 E B g { t1 with m := { t1.m with f := y } } W2) := ⟨_, Lib.hid (HW1.out.put18 eA)⟩
   clear eA c18 z18
   go_wp2_with fail
   refine (pop_z HA1.out (Nat.le_trans HL1.out (by decide))).mono ?_
   have hp := Short.pop (n := 1) (s := { t1 with m := { t1.m with f := y1 } }) HS1.out
   have hl := Nat.le_trans (rpop_len ({ t1 with m := { t1.m with f := y1 } })) HL1.out
   generalize (rpop ({ t1 with m := { t1.m with f := y1 } })).1 = t2 at hp hl ⊢
   generalize (rpop ({ t1 with m := { t1.m with f := y1 } })).2 = x2 at hp hl ⊢
   rintro e w ⟨rfl, hw⟩
   have HW2 := Lib.hid hw
   have HS2 := Lib.hid hp
   have HL2 : Hid (t2.m.st.length ≤ 4096) := Lib.hid hl
   have c15 := hw.cell 15 (.int .u16 t2.m.pc) (fun _ _ => rfl)
   have z15 := hw.frz 15
   clear hw hp hl
   go_upto_region 16 with (fail)
   generalize eA : World.setCell _ _ _ = W3
   obtain ⟨y2, HA2⟩ : ∃ y, Hid (RM b0 W0 E B g { t2 with m := { t2.m with pc := y } } W3) := ⟨_, Lib.hid (HW2.out.put15 eA)⟩
   clear eA c15 z15
   go_wp2_with fail
   refine (pop_z HA2.out (Nat.le_trans HL2.out (by decide))).mono ?_
   have hp := Short.pop (n := 0) (s := { t2 with m := { t2.m with pc := y2 } }) HS2.out
   have hl := Nat.le_trans (rpop_len ({ t2 with m := { t2.m with pc := y2 } })) HL2.out
   generalize (rpop ({ t2 with m := { t2.m with pc := y2 } })).1 = t3 at hp hl ⊢
   generalize (rpop ({ t2 with m := { t2.m with pc := y2 } })).2 = x3 at hp hl ⊢
   rintro e w ⟨rfl, hw⟩
   have HW3 := Lib.hid hw
   have HS3 := Lib.hid hp
   have HL3 : Hid (t3.m.st.length ≤ 4096) := Lib.hid hl
   have c19 := hw.cell 19 (.int .i64 t3.m.bank) (fun _ _ => rfl)
   have z19 := hw.frz 19
   clear hw hp hl
   go_upto_region 31 with (fail)
   generalize eA : World.setCell _ _ _ = W4
   obtain ⟨y3, HA3⟩ : ∃ y, Hid (RM b0 W0 E B g { t3 with m := { t3.m with bank := y } } W4) := ⟨_, Lib.hid (HW3.out.put19 eA)⟩
   clear eA c19 z19
   have HFIN := Lib.hid HS3.out.zero
   obtain ⟨i0, i1, i2, i3, i4, i5, i6⟩ := HZ.out.at HA3.out.2
   go_wp2_with fail
   refine ends (v := .tuple #[]) (by simp [results, Tryz.results33]) rfl ⟨rfl, _, HU.out.from HA3.out, ?_⟩
   unfold EndsR iretM
   rw [if_neg (by have := HL.out; omega)]
   exact HFIN.out
set_option maxRecDepth 20000 in
set_option maxHeartbeats 8000000 in
theorem ct_jmp (h : RM b0 U E B g s V) (ok : s.m.Ok) (k0 : s.k = 0) (d : Nat) (hd : d < 8) (si imm aux bank size : Int) (hi : OkU16 imm) (hs : s.m.st.length < 12) : Calls Tryz.prog 33 #[.pointer (some ⟨B, 0, none⟩), .agg #[.int .i64 128, .int .i64 (d : Int), .int .i64 si, .int .u16 imm, .int .u16 aux, .int .i64 bank, .int .i64 size], .int .u16 s.m.pc] V (LeavesR b0 U E B g s (.ok (addPc s.m imm))) := by
 obtain ⟨HZ, HR, HU⟩ := box_z h 128 d si imm aux bank size
 have OK := Lib.hid ok
 have K0 := Lib.hid k0
 have HD := Lib.hid hd
 have HI := Lib.hid hi
 have HL := Lib.hid hs
 have d0 : (0 : Int) ≤ (d : Int) := by omega
 have d1 : (d : Int) < 8 := by omega
 clear h ok k0 hd hi hs
 obtain ⟨pc, hpc⟩ : ∃ pc, s.m.pc = pc := ⟨_, rfl⟩
 have HPC := Lib.hid hpc
 rw [hpc]
 clear hpc
 go_enter Tryz.func33, Tryz.ntmps33
 go_upto_region 1 with (fail)
 generalize V.alloc _ = W0 at *
 obtain ⟨q, hq⟩ : ∃ q, V.heap.size = q := ⟨_, rfl⟩
 rw [hq] at HZ ⊢
 clear hq
 obtain ⟨i0, i1, i2, i3, i4, i5, i6⟩ := HZ.out.at (Kz.refl b0 W0)
 have xw : IntKind.u16.wrap (pc + imm) = (pc + imm) % 65536 := IntKind.wrap_u16 _
 have c15 := HR.out.cell 15 (.int .u16 pc) (fun _ _ => by rw [← HPC.out]; rfl)
 have z15 := HR.out.frz 15
 go_upto_region 31 with (fail)
 clear i0 i1 i2 i3 i4 i5 i6
 generalize eA : World.setCell _ _ _ = WA
 have HWA := Lib.hid (HR.out.put (s' := { s with m := { s.m with pc := (pc + imm) % 65536 } }) 15 _ eA (fun _ _ => rfl) rfl rfl rfl)
 obtain ⟨i0, i1, i2, i3, i4, i5, i6⟩ := HZ.out.at HWA.out.2
 clear eA c15 z15
 go_wp2_with fail
 refine ends (v := .tuple #[]) (by simp [results, Tryz.results33]) rfl ⟨rfl, _, HU.out.from HWA.out, ?_⟩
 unfold EndsR addPc
 rw [HPC.out]
set_option maxRecDepth 20000 in
set_option maxHeartbeats 8000000 in
theorem ct_jmpw (h : RM b0 U E B g s V) (ok : s.m.Ok) (k0 : s.k = 0) (d : Nat) (hd : d < 8) (si imm aux bank size : Int) (hi : OkU16 imm) (hs : s.m.st.length < 12) : Calls Tryz.prog 33 #[.pointer (some ⟨B, 0, none⟩), .agg #[.int .i64 129, .int .i64 (d : Int), .int .i64 si, .int .u16 imm, .int .u16 aux, .int .i64 bank, .int .i64 size], .int .u16 s.m.pc] V (LeavesR b0 U E B g s (.ok (addPc s.m imm))) := by
 obtain ⟨HZ, HR, HU⟩ := box_z h 129 d si imm aux bank size
 have OK := Lib.hid ok
 have K0 := Lib.hid k0
 have HD := Lib.hid hd
 have HI := Lib.hid hi
 have HL := Lib.hid hs
 have d0 : (0 : Int) ≤ (d : Int) := by omega
 have d1 : (d : Int) < 8 := by omega
 clear h ok k0 hd hi hs
 obtain ⟨pc, hpc⟩ : ∃ pc, s.m.pc = pc := ⟨_, rfl⟩
 have HPC := Lib.hid hpc
 rw [hpc]
 clear hpc
 go_enter Tryz.func33, Tryz.ntmps33
 go_upto_region 1 with (fail)
 generalize V.alloc _ = W0 at *
 obtain ⟨q, hq⟩ : ∃ q, V.heap.size = q := ⟨_, rfl⟩
 rw [hq] at HZ ⊢
 clear hq
 obtain ⟨i0, i1, i2, i3, i4, i5, i6⟩ := HZ.out.at (Kz.refl b0 W0)
 have xw : IntKind.u16.wrap (pc + imm) = (pc + imm) % 65536 := IntKind.wrap_u16 _
 have c15 := HR.out.cell 15 (.int .u16 pc) (fun _ _ => by rw [← HPC.out]; rfl)
 have z15 := HR.out.frz 15
 go_upto_region 31 with (fail)
 clear i0 i1 i2 i3 i4 i5 i6
 generalize eA : World.setCell _ _ _ = WA
 have HWA := Lib.hid (HR.out.put (s' := { s with m := { s.m with pc := (pc + imm) % 65536 } }) 15 _ eA (fun _ _ => rfl) rfl rfl rfl)
 obtain ⟨i0, i1, i2, i3, i4, i5, i6⟩ := HZ.out.at HWA.out.2
 clear eA c15 z15
 go_wp2_with fail
 refine ends (v := .tuple #[]) (by simp [results, Tryz.results33]) rfl ⟨rfl, _, HU.out.from HWA.out, ?_⟩
 unfold EndsR addPc
 rw [HPC.out]
set_option maxRecDepth 20000 in
set_option maxHeartbeats 8000000 in
theorem ct_call (h : RM b0 U E B g s V) (ok : s.m.Ok) (k0 : s.k = 0) (d : Nat) (hd : d < 8) (si imm aux bank size : Int) (hi : OkU16 imm) (hs : s.m.st.length < 12) : Calls Tryz.prog 33 #[.pointer (some ⟨B, 0, none⟩), .agg #[.int .i64 130, .int .i64 (d : Int), .int .i64 si, .int .u16 imm, .int .u16 aux, .int .i64 bank, .int .i64 size], .int .u16 s.m.pc] V (LeavesR b0 U E B g s (callM s.m imm)) := by
 obtain ⟨HZ, HR, HU⟩ := box_z h 130 d si imm aux bank size
 have OK := Lib.hid ok
 have K0 := Lib.hid k0
 have HD := Lib.hid hd
 have HI := Lib.hid hi
 have HL := Lib.hid hs
 have d0 : (0 : Int) ≤ (d : Int) := by omega
 have d1 : (d : Int) < 8 := by omega
 clear h ok k0 hd hi hs
 obtain ⟨pc, hpc⟩ : ∃ pc, s.m.pc = pc := ⟨_, rfl⟩
 have HPC := Lib.hid hpc
 rw [hpc]
 clear hpc
 go_enter Tryz.func33, Tryz.ntmps33
 go_upto_region 1 with (fail)
 generalize V.alloc _ = W0 at *
 obtain ⟨q, hq⟩ : ∃ q, V.heap.size = q := ⟨_, rfl⟩
 rw [hq] at HZ ⊢
 clear hq
 obtain ⟨i0, i1, i2, i3, i4, i5, i6⟩ := HZ.out.at (Kz.refl b0 W0)
 obtain ⟨bk, hbk⟩ : ∃ bk, s.m.bank % 65536 = bk := ⟨_, rfl⟩
 have xb : IntKind.u16.wrap s.m.bank = bk := (IntKind.wrap_u16 _).trans hbk
 have HBK := Lib.hid hbk
 have c19 := HR.out.cell 19 (.int .i64 s.m.bank) (fun _ _ => rfl)
 clear hbk
 go_wp2_with fail
 clear i0 i1 i2 i3 i4 i5 i6 c19 xb
 refine (push_z HR.out (by have := HL.out; omega) bk).mono ?_
 rw [rpush_le (n := 2) (by have := HL.out; omega)]
 rintro e w ⟨rfl, hw⟩
 have HW1 := Lib.hid hw
 clear hw
 go_wp2_with fail
 refine (push_z HW1.out (by have := HL.out; simp [setSt]; omega) pc).mono ?_
 rw [rpush_le (n := 1) (by have := HL.out; simp [setSt]; omega)]
 rintro e w ⟨rfl, hw⟩
 have hq : RM b0 W0 E B g { s with m := setSt s.m (s.m.st ++ [bk, pc]) } w := by
  have h9 := hw
  simp only [setSt, List.append_assoc, List.singleton_append] at h9
  exact h9
 have HW2 := Lib.hid hq
 clear hw hq
 obtain ⟨i0, i1, i2, i3, i4, i5, i6⟩ := HZ.out.at HW2.out.2
 have xw : IntKind.u16.wrap (pc + imm) = (pc + imm) % 65536 := IntKind.wrap_u16 _
 have c15 := HW2.out.cell 15 (.int .u16 pc) (fun _ _ => by rw [← HPC.out]; rfl)
 have z15 := HW2.out.frz 15
 go_upto_region 31 with (fail)
 clear i0 i1 i2 i3 i4 i5 i6
 generalize eA : World.setCell _ _ _ = WA
 have HWA := Lib.hid (HW2.out.put (s' := { s with m := { setSt s.m (s.m.st ++ [bk, pc]) with pc := (pc + imm) % 65536 } }) 15 _ eA (fun _ _ => rfl) rfl rfl rfl)
 obtain ⟨i0, i1, i2, i3, i4, i5, i6⟩ := HZ.out.at HWA.out.2
 clear eA c15 z15
 go_wp2_with fail
 refine ends (v := .tuple #[]) (by simp [results, Tryz.results33]) rfl ⟨rfl, _, HU.out.from HWA.out, ?_⟩
 unfold EndsR callM push2M
 rw [if_pos (by have := HL.out; omega), HBK.out, HPC.out]
 simp only [addPc, setSt, HPC.out]
set_option maxRecDepth 20000 in
set_option maxHeartbeats 8000000 in
theorem ct_callf (h : RM b0 U E B g s V) (ok : s.m.Ok) (k0 : s.k = 0) (d : Nat) (hd : d < 8) (si imm aux bank size : Int) (hi : OkU16 imm) (hs : s.m.st.length < 12) : Calls Tryz.prog 33 #[.pointer (some ⟨B, 0, none⟩), .agg #[.int .i64 132, .int .i64 (d : Int), .int .i64 si, .int .u16 imm, .int .u16 aux, .int .i64 bank, .int .i64 size], .int .u16 s.m.pc] V (LeavesR b0 U E B g s (callfM s.m ⟨132, d, si, imm, aux, bank, size⟩)) := by
 obtain ⟨HZ, HR, HU⟩ := box_z h 132 d si imm aux bank size
 have OK := Lib.hid ok
 have K0 := Lib.hid k0
 have HD := Lib.hid hd
 have HI := Lib.hid hi
 have HL := Lib.hid hs
 have d0 : (0 : Int) ≤ (d : Int) := by omega
 have d1 : (d : Int) < 8 := by omega
 clear h ok k0 hd hi hs
 obtain ⟨pc, hpc⟩ : ∃ pc, s.m.pc = pc := ⟨_, rfl⟩
 have HPC := Lib.hid hpc
 rw [hpc]
 clear hpc
 go_enter Tryz.func33, Tryz.ntmps33
 go_upto_region 1 with (fail)
 generalize V.alloc _ = W0 at *
 obtain ⟨q, hq⟩ : ∃ q, V.heap.size = q := ⟨_, rfl⟩
 rw [hq] at HZ ⊢
 clear hq
 obtain ⟨i0, i1, i2, i3, i4, i5, i6⟩ := HZ.out.at (Kz.refl b0 W0)
 obtain ⟨bk, hbk⟩ : ∃ bk, s.m.bank % 65536 = bk := ⟨_, rfl⟩
 have xb : IntKind.u16.wrap s.m.bank = bk := (IntKind.wrap_u16 _).trans hbk
 have HBK := Lib.hid hbk
 have c19 := HR.out.cell 19 (.int .i64 s.m.bank) (fun _ _ => rfl)
 clear hbk
 go_wp2_with fail
 clear i0 i1 i2 i3 i4 i5 i6 c19 xb
 refine (push_z HR.out (by have := HL.out; omega) bk).mono ?_
 rw [rpush_le (n := 2) (by have := HL.out; omega)]
 rintro e w ⟨rfl, hw⟩
 have HW1 := Lib.hid hw
 clear hw
 go_wp2_with fail
 refine (push_z HW1.out (by have := HL.out; simp [setSt]; omega) pc).mono ?_
 rw [rpush_le (n := 1) (by have := HL.out; simp [setSt]; omega)]
 rintro e w ⟨rfl, hw⟩
 have hq : RM b0 W0 E B g { s with m := setSt s.m (s.m.st ++ [bk, pc]) } w := by
  have h9 := hw
  simp only [setSt, List.append_assoc, List.singleton_append] at h9
  exact h9
 have HW2 := Lib.hid hq
 clear hw hq
 obtain ⟨i0, i1, i2, i3, i4, i5, i6⟩ := HZ.out.at HW2.out.2
 have xw : IntKind.u16.wrap (pc + imm) = (pc + imm) % 65536 := IntKind.wrap_u16 _
 have c15 := HW2.out.cell 15 (.int .u16 pc) (fun _ _ => by rw [← HPC.out]; rfl)
 have z15 := HW2.out.frz 15
 go_upto_region 31 with (fail)
 clear i0 i1 i2 i3 i4 i5 i6
 generalize eA : World.setCell _ _ _ = WA
 have HWA := Lib.hid (HW2.out.put (s' := { s with m := { setSt s.m (s.m.st ++ [bk, pc]) with pc := (pc + imm) % 65536 } }) 15 _ eA (fun _ _ => rfl) rfl rfl rfl)
 obtain ⟨i0, i1, i2, i3, i4, i5, i6⟩ := HZ.out.at HWA.out.2
 clear eA c15 z15
 have c15 := HWA.out.cell 15 _ (fun _ _ => rfl)
 have z15 := HWA.out.frz 15
 go_upto_region 33 with (fail)
 clear i0 i1 i2 i3 i4 i5 i6
 generalize eA : World.setCell _ _ _ = WB
 have HWB := Lib.hid (HWA.out.put (s' := { s with m := { (setSt s.m (s.m.st ++ [bk, pc])) with pc := imm } }) 15 _ eA (fun _ _ => rfl) rfl rfl rfl)
 obtain ⟨i0, i1, i2, i3, i4, i5, i6⟩ := HZ.out.at HWB.out.2
 clear eA c15 z15
 by_cases e1 : 4096 ≤ imm
 ·have t1 : decide ((4096 : Int) ≤ imm) = true := decide_eq_true e1
  by_cases e2 : imm < 8192
  ·have t2 : decide (imm < (8192 : Int)) = true := decide_eq_true e2
   have c19 := HWB.out.cell 19 _ (fun _ _ => rfl)
   have z19 := HWB.out.frz 19
   have HE := Lib.hid (And.intro e1 e2)
   clear e1 e2
   go_wp2_with fail
   generalize eA : World.setCell _ _ _ = WC
   have HWC := Lib.hid (HWB.out.put (s' := { s with m := { (setSt s.m (s.m.st ++ [bk, pc])) with pc := imm, bank := bank } }) 19 _ eA (fun _ _ => rfl) rfl rfl rfl)
   refine ends (v := .tuple #[]) (by simp [results, Tryz.results33]) rfl ⟨rfl, _, HU.out.from HWC.out, ?_⟩
   unfold EndsR
   unfold callfM push2M; rw [if_pos (by have := HL.out; omega), HBK.out, HPC.out]; dsimp only
   simp [farM, setSt, HE.out.1, HE.out.2]
  ·have t2 : decide (imm < (8192 : Int)) = false := decide_eq_false e2
   have HE := Lib.hid e2
   clear e1 e2
   go_wp2_with fail
   refine ends (v := .tuple #[]) (by simp [results, Tryz.results33]) rfl ⟨rfl, _, HU.out.from HWB.out, ?_⟩
   unfold EndsR
   unfold callfM push2M; rw [if_pos (by have := HL.out; omega), HBK.out, HPC.out]; dsimp only
   simp [farM, setSt]
   exact fun _ h => by have := HE.out; omega
 ·have t1 : decide ((4096 : Int) ≤ imm) = false := decide_eq_false e1
  have HE := Lib.hid e1
  clear e1
  go_wp2_with fail
  refine ends (v := .tuple #[]) (by simp [results, Tryz.results33]) rfl ⟨rfl, _, HU.out.from HWB.out, ?_⟩
  unfold EndsR
  unfold callfM push2M; rw [if_pos (by have := HL.out; omega), HBK.out, HPC.out]; dsimp only
  simp [farM, setSt]
  exact fun h => by have := HE.out; omega
set_option maxRecDepth 20000 in
set_option maxHeartbeats 8000000 in
theorem ct_jmpf (h : RM b0 U E B g s V) (ok : s.m.Ok) (k0 : s.k = 0) (d : Nat) (hd : d < 8) (si imm aux bank size : Int) (hi : OkU16 imm) (hs : s.m.st.length < 12) : Calls Tryz.prog 33 #[.pointer (some ⟨B, 0, none⟩), .agg #[.int .i64 131, .int .i64 (d : Int), .int .i64 si, .int .u16 imm, .int .u16 aux, .int .i64 bank, .int .i64 size], .int .u16 s.m.pc] V (LeavesR b0 U E B g s (.ok (farM s.m ⟨131, d, si, imm, aux, bank, size⟩))) := by
 obtain ⟨HZ, HR, HU⟩ := box_z h 131 d si imm aux bank size
 have OK := Lib.hid ok
 have K0 := Lib.hid k0
 have HD := Lib.hid hd
 have HI := Lib.hid hi
 have HL := Lib.hid hs
 have d0 : (0 : Int) ≤ (d : Int) := by omega
 have d1 : (d : Int) < 8 := by omega
 clear h ok k0 hd hi hs
 obtain ⟨pc, hpc⟩ : ∃ pc, s.m.pc = pc := ⟨_, rfl⟩
 have HPC := Lib.hid hpc
 rw [hpc]
 clear hpc
 go_enter Tryz.func33, Tryz.ntmps33
 go_upto_region 1 with (fail)
 generalize V.alloc _ = W0 at *
 obtain ⟨q, hq⟩ : ∃ q, V.heap.size = q := ⟨_, rfl⟩
 rw [hq] at HZ ⊢
 clear hq
 obtain ⟨i0, i1, i2, i3, i4, i5, i6⟩ := HZ.out.at (Kz.refl b0 W0)
 have HC : Hid (∀ W, Calls Tryz.prog 60 #[.int .i64 3, .int .u16 s.m.f] W fun e w' => e = .returned (.bool (condI 3 s.m.f)) ∧ W = w') := Lib.hid fun W => rcond_any 3 s.m.f W OK.out.f.1 OK.out.f.2 (by omega) (by omega)
 have c18 := HR.out.cell 18 (.int .u16 s.m.f) (fun _ _ => rfl)
 have xw : IntKind.u16.wrap (pc + imm) = (pc + imm) % 65536 := IntKind.wrap_u16 _
 have c15 := HR.out.cell 15 (.int .u16 pc) (fun _ _ => by rw [← HPC.out]; rfl)
 have z15 := HR.out.frz 15
 go_wp2_with fail
 refine (HC.out _).mono ?_
 generalize condI 3 s.m.f = cb
 rintro e w ⟨rfl, rfl⟩
 cases cb
 rotate_left
 ·go_upto_region 31 with (fail)
  clear i0 i1 i2 i3 i4 i5 i6
  generalize eA : World.setCell _ _ _ = WA
  have HWA := Lib.hid (HR.out.put (s' := { s with m := { s.m with pc := (pc + imm) % 65536 } }) 15 _ eA (fun _ _ => rfl) rfl rfl rfl)
  obtain ⟨i0, i1, i2, i3, i4, i5, i6⟩ := HZ.out.at HWA.out.2
  clear eA c15 z15
  have c15 := HWA.out.cell 15 _ (fun _ _ => rfl)
  have z15 := HWA.out.frz 15
  go_upto_region 33 with (fail)
  clear i0 i1 i2 i3 i4 i5 i6
  generalize eA : World.setCell _ _ _ = WB
  have HWB := Lib.hid (HWA.out.put (s' := { s with m := { s.m with pc := imm } }) 15 _ eA (fun _ _ => rfl) rfl rfl rfl)
  obtain ⟨i0, i1, i2, i3, i4, i5, i6⟩ := HZ.out.at HWB.out.2
  clear eA c15 z15
  by_cases e1 : 4096 ≤ imm
  ·have t1 : decide ((4096 : Int) ≤ imm) = true := decide_eq_true e1
   by_cases e2 : imm < 8192
   ·have t2 : decide (imm < (8192 : Int)) = true := decide_eq_true e2
    have c19 := HWB.out.cell 19 _ (fun _ _ => rfl)
    have z19 := HWB.out.frz 19
    have HE := Lib.hid (And.intro e1 e2)
    clear e1 e2
    go_wp2_with fail
    generalize eA : World.setCell _ _ _ = WC
    have HWC := Lib.hid (HWB.out.put (s' := { s with m := { s.m with pc := imm, bank := bank } }) 19 _ eA (fun _ _ => rfl) rfl rfl rfl)
    refine ends (v := .tuple #[]) (by simp [results, Tryz.results33]) rfl ⟨rfl, _, HU.out.from HWC.out, ?_⟩
    unfold EndsR
    simp [farM, setSt, HE.out.1, HE.out.2]
   ·have t2 : decide (imm < (8192 : Int)) = false := decide_eq_false e2
    have HE := Lib.hid e2
    clear e1 e2
    go_wp2_with fail
    refine ends (v := .tuple #[]) (by simp [results, Tryz.results33]) rfl ⟨rfl, _, HU.out.from HWB.out, ?_⟩
    unfold EndsR
    simp [farM, setSt]
    exact fun _ h => by have := HE.out; omega
  ·have t1 : decide ((4096 : Int) ≤ imm) = false := decide_eq_false e1
   have HE := Lib.hid e1
   clear e1
   go_wp2_with fail
   refine ends (v := .tuple #[]) (by simp [results, Tryz.results33]) rfl ⟨rfl, _, HU.out.from HWB.out, ?_⟩
   unfold EndsR
   simp [farM, setSt]
   exact fun h => by have := HE.out; omega
 ·clear c15 z15
  have c15 := HR.out.cell 15 _ (fun _ _ => rfl)
  have z15 := HR.out.frz 15
  go_upto_region 33 with (fail)
  clear i0 i1 i2 i3 i4 i5 i6
  generalize eA : World.setCell _ _ _ = WB
  have HWB := Lib.hid (HR.out.put (s' := { s with m := { s.m with pc := imm } }) 15 _ eA (fun _ _ => rfl) rfl rfl rfl)
  obtain ⟨i0, i1, i2, i3, i4, i5, i6⟩ := HZ.out.at HWB.out.2
  clear eA c15 z15
  by_cases e1 : 4096 ≤ imm
  ·have t1 : decide ((4096 : Int) ≤ imm) = true := decide_eq_true e1
   by_cases e2 : imm < 8192
   ·have t2 : decide (imm < (8192 : Int)) = true := decide_eq_true e2
    have c19 := HWB.out.cell 19 _ (fun _ _ => rfl)
    have z19 := HWB.out.frz 19
    have HE := Lib.hid (And.intro e1 e2)
    clear e1 e2
    go_wp2_with fail
    generalize eA : World.setCell _ _ _ = WC
    have HWC := Lib.hid (HWB.out.put (s' := { s with m := { s.m with pc := imm, bank := bank } }) 19 _ eA (fun _ _ => rfl) rfl rfl rfl)
    refine ends (v := .tuple #[]) (by simp [results, Tryz.results33]) rfl ⟨rfl, _, HU.out.from HWC.out, ?_⟩
    unfold EndsR
    simp [farM, setSt, HE.out.1, HE.out.2]
   ·have t2 : decide (imm < (8192 : Int)) = false := decide_eq_false e2
    have HE := Lib.hid e2
    clear e1 e2
    go_wp2_with fail
    refine ends (v := .tuple #[]) (by simp [results, Tryz.results33]) rfl ⟨rfl, _, HU.out.from HWB.out, ?_⟩
    unfold EndsR
    simp [farM, setSt]
    exact fun _ h => by have := HE.out; omega
  ·have t1 : decide ((4096 : Int) ≤ imm) = false := decide_eq_false e1
   have HE := Lib.hid e1
   clear e1
   go_wp2_with fail
   refine ends (v := .tuple #[]) (by simp [results, Tryz.results33]) rfl ⟨rfl, _, HU.out.from HWB.out, ?_⟩
   unfold EndsR
   simp [farM, setSt]
   exact fun h => by have := HE.out; omega
set_option maxRecDepth 20000 in
set_option maxHeartbeats 8000000 in
theorem ct_jcc (h : RM b0 U E B g s V) (ok : s.m.Ok) (k0 : s.k = 0) (d : Nat) (hd : d < 8) (op : Int) (si imm aux bank size : Int) (hi : OkU16 imm) (hs : s.m.st.length < 12) (h1 : 96 ≤ op) (h2 : op < 128) : Calls Tryz.prog 33 #[.pointer (some ⟨B, 0, none⟩), .agg #[.int .i64 op, .int .i64 (d : Int), .int .i64 si, .int .u16 imm, .int .u16 aux, .int .i64 bank, .int .i64 size], .int .u16 s.m.pc] V (LeavesR b0 U E B g s (jccM s.m op imm)) := by
 obtain ⟨HZ, HR, HU⟩ := box_z h op d si imm aux bank size
 have OK := Lib.hid ok
 have K0 := Lib.hid k0
 have HD := Lib.hid hd
 have HI := Lib.hid hi
 have HL := Lib.hid hs
 have d0 : (0 : Int) ≤ (d : Int) := by omega
 have d1 : (d : Int) < 8 := by omega
 clear h ok k0 hd hi hs
 obtain ⟨pc, hpc⟩ : ∃ pc, s.m.pc = pc := ⟨_, rfl⟩
 have HPC := Lib.hid hpc
 rw [hpc]
 clear hpc
 go_enter Tryz.func33, Tryz.ntmps33
 go_upto_region 1 with (fail)
 generalize V.alloc _ = W0 at *
 obtain ⟨q, hq⟩ : ∃ q, V.heap.size = q := ⟨_, rfl⟩
 rw [hq] at HZ ⊢
 clear hq
 obtain ⟨i0, i1, i2, i3, i4, i5, i6⟩ := HZ.out.at (Kz.refl b0 W0)
 obtain ⟨cc, hcc⟩ : ∃ cc, op % 16 = cc := ⟨_, rfl⟩
 have hcb : 0 ≤ cc ∧ cc < 16 := by omega
 have q0 : IntKind.i64.wrap (op - 96) = op - 96 := IntWalk.i64_in _ (by omega)
 have q1 : (op - 96).tmod 16 = cc := by rw [Int.tmod_eq_emod_of_nonneg (by omega)]; omega
 have q2 : IntKind.i64.wrap cc = cc := IntWalk.i64_in _ (by omega)
 have n1 : (op == 1) = false := by rw [beq_eq_false_iff_ne]; omega
 have n2 : (op == 3) = false := by rw [beq_eq_false_iff_ne]; omega
 have n3 : (op == 128) = false := by rw [beq_eq_false_iff_ne]; omega
 have n4 : (op == 129) = false := by rw [beq_eq_false_iff_ne]; omega
 have n5 : (op == 130) = false := by rw [beq_eq_false_iff_ne]; omega
 have n6 : (op == 131) = false := by rw [beq_eq_false_iff_ne]; omega
 have n7 : (op == 132) = false := by rw [beq_eq_false_iff_ne]; omega
 have n8 : (op == 133) = false := by rw [beq_eq_false_iff_ne]; omega
 have n9 : (op == 134) = false := by rw [beq_eq_false_iff_ne]; omega
 have HCC := Lib.hid hcc
 have HC : Hid (∀ W, Calls Tryz.prog 60 #[.int .i64 cc, .int .u16 s.m.f] W fun e w' => e = .returned (.bool (condI cc s.m.f)) ∧ W = w') := Lib.hid fun W => rcond_any cc s.m.f W OK.out.f.1 OK.out.f.2 (by omega) (by omega)
 have c18 := HR.out.cell 18 (.int .u16 s.m.f) (fun _ _ => rfl)
 clear hcc hcb h1 h2
 have xw : IntKind.u16.wrap (pc + imm) = (pc + imm) % 65536 := IntKind.wrap_u16 _
 have c15 := HR.out.cell 15 (.int .u16 pc) (fun _ _ => by rw [← HPC.out]; rfl)
 have z15 := HR.out.frz 15
 go_wp2_with fail
 refine (HC.out _).mono ?_
 obtain ⟨cb, hcb⟩ : ∃ cb, condI cc s.m.f = cb := ⟨_, rfl⟩
 rw [hcb]
 have HCB := Lib.hid hcb
 clear hcb
 rintro e w ⟨rfl, rfl⟩
 cases cb
 rotate_left
 ·go_upto_region 31 with (fail)
  clear i0 i1 i2 i3 i4 i5 i6
  generalize eA : World.setCell _ _ _ = WA
  have HWA := Lib.hid (HR.out.put (s' := { s with m := { s.m with pc := (pc + imm) % 65536 } }) 15 _ eA (fun _ _ => rfl) rfl rfl rfl)
  obtain ⟨i0, i1, i2, i3, i4, i5, i6⟩ := HZ.out.at HWA.out.2
  clear eA c15 z15
  go_wp2_with fail
  refine ends (v := .tuple #[]) (by simp [results, Tryz.results33]) rfl ⟨rfl, _, HU.out.from HWA.out, ?_⟩
  unfold EndsR jccM
  rw [HCC.out, HCB.out, if_pos rfl]
  simp only [addPc, HPC.out]
 ·go_wp2_with fail
  refine ends (v := .tuple #[]) (by simp [results, Tryz.results33]) rfl ⟨rfl, _, HU.out, ?_⟩
  unfold EndsR jccM
  rw [HCC.out, HCB.out, if_neg (by decide)]
set_option maxRecDepth 20000 in
set_option maxHeartbeats 8000000 in
theorem ct_jmpi (h : RM b0 U E B g s V) (ok : s.m.Ok) (k0 : s.k = 0) (d : Nat) (hd : d < 8) (si imm aux bank size : Int) (hi : OkU16 imm) (hs : s.m.st.length < 12) (hE : StrsLow b0 U E.pb E.banks) (hl : E.banks.length ≤ maxLen) : Calls Tryz.prog 33 #[.pointer (some ⟨B, 0, none⟩), .agg #[.int .i64 134, .int .i64 (d : Int), .int .i64 si, .int .u16 imm, .int .u16 aux, .int .i64 bank, .int .i64 size], .int .u16 s.m.pc] V (LeavesR b0 U E B g s (jmpiM E s.m d imm)) := by
 obtain ⟨HZ, HR, HU⟩ := box_z h 134 d si imm aux bank size
 have OK := Lib.hid ok
 have K0 := Lib.hid k0
 have HD := Lib.hid hd
 have HI := Lib.hid hi
 have HL := Lib.hid hs
 have HE := Lib.hid hE
 clear hE
 have d0 : (0 : Int) ≤ (d : Int) := by omega
 have d1 : (d : Int) < 8 := by omega
 clear h ok k0 hd hi hs
 obtain ⟨pc, hpc⟩ : ∃ pc, s.m.pc = pc := ⟨_, rfl⟩
 have HPC := Lib.hid hpc
 rw [hpc]
 clear hpc
 go_enter Tryz.func33, Tryz.ntmps33
 go_upto_region 1 with (fail)
 generalize V.alloc _ = W0 at *
 obtain ⟨q, hq⟩ : ∃ q, V.heap.size = q := ⟨_, rfl⟩
 rw [hq] at HZ ⊢
 clear hq
 obtain ⟨i0, i1, i2, i3, i4, i5, i6⟩ := HZ.out.at (Kz.refl b0 W0)
 have HBL := Lib.hid hl
 clear hl
 obtain ⟨rd, hrd⟩ : ∃ x, 2 * s.m.R d % 65536 = x := ⟨_, rfl⟩
 obtain ⟨a, ha⟩ : ∃ a, (imm + rd) % 65536 = a := ⟨_, rfl⟩
 have r1 : IntKind.u16.wrap (2 * s.m.R d) = rd := (IntKind.wrap_u16 _).trans hrd
 have r2 : IntKind.u16.wrap (imm + rd) = a := (IntKind.wrap_u16 _).trans ha
 have HRD := Lib.hid hrd
 have HA := Lib.hid ha
 have HAO : Hid (OkU16 a) := Lib.hid (by rw [← ha]; exact ⟨by omega, by omega⟩)
 clear hrd ha
 have HP : Hid (∀ W, RM b0 W0 E B g s W → Calls Tryz.prog 59 #[.pointer (some ⟨B, 0, none⟩), .int .u16 a] W (Leaves0 b0 W0 E B g (rjump E s a))) := Lib.hid fun W hW => jump_z hW (HE.out.kz HU.out.2) HBL.out OK.out.bank a HAO.out
 go_upto_region 30 with (fail)
 clear i0 i1 i2 i3 i4 i5 i6
 refine' wp_region_flowR [[], [], [(158, 1)], [], [], [(161, 4)], [(160, 3)], [(163, 6)], [(164, 7)], [(165, 8), (162, 5)], [(166, 9)], [(167, 10)], [(159, 2), (168, 11)], [(157, 0), (158, 1), (159, 2), (160, 3), (161, 4), (162, 5), (163, 6), (164, 7), (165, 8), (166, 9), (167, 10), (168, 11), (169, 12)]] (relL [eqV _, eqV _, eqV _, eqV _, eqV _, eqV _, eqV _, eqV _, eqV _, eqV _, eqV _, eqV _, eqV _]) (by kernel_rfl) (by kernel_rfl) ?_
 rotate_left 13
 iterate 13
  refine FlowR.step ?_ ?_
  ·intro V hV
   simp only [Dep, lQ]
   repeat rintro _ ⟨_, rfl, _⟩
   intro K hK
   obtain ⟨i0, i1, i2, i3, i4, i5, i6⟩ := HZ.out.at (HR.out.2.next hV)
   have cR : V.cell? ⟨B, 7 + d, none⟩ = some (.int .u16 (s.m.R d)) := (HR.out.next hV).cellR d HD.out
   go_simp
   refine hK _ _ ?_ (Below.refl _ _)
   simp only [lR]
   exact rfl
 refine FlowR.last ?_
 intro V hV
 simp only [Dep, lQ]
 repeat rintro _ ⟨_, rfl, _⟩
 intro K hK
 obtain ⟨i0, i1, i2, i3, i4, i5, i6⟩ := HZ.out.at (HR.out.2.next hV)
 have cR : V.cell? ⟨B, 7 + d, none⟩ = some (.int .u16 (s.m.R d)) := (HR.out.next hV).cellR d HD.out
 go_simp
 go_at_call 59
 refine (HP.out _ (HR.out.next hV)).mono ?_
 rintro e w ⟨rfl, hw⟩
 refine hK _ _ ?_
 have HW := Lib.hid hw
 clear hw hV hK i0 i1 i2 i3 i4 i5 i6 cR
 obtain ⟨i0, i1, i2, i3, i4, i5, i6⟩ := HZ.out.at HW.out.2
 go_wp2_with fail
 refine ends (v := .tuple #[]) (by simp [results, Tryz.results33]) rfl ⟨rfl, _, HU.out.from HW.out, ?_⟩
 unfold jmpiM
 rw [HRD.out, HA.out]
 exact rjump_eq K0.out a HAO.out
set_option maxRecDepth 20000 in
set_option maxHeartbeats 8000000 in
theorem ct_jtab (h : RM b0 U E B g s V) (ok : s.m.Ok) (k0 : s.k = 0) (d : Nat) (hd : d < 8) (si imm aux bank size : Int) (hi : OkU16 imm) (hs : s.m.st.length < 12) (hE : StrsLow b0 U E.pb E.banks) (hl : E.banks.length ≤ maxLen) : Calls Tryz.prog 33 #[.pointer (some ⟨B, 0, none⟩), .agg #[.int .i64 133, .int .i64 (d : Int), .int .i64 si, .int .u16 imm, .int .u16 aux, .int .i64 bank, .int .i64 size], .int .u16 s.m.pc] V (LeavesR b0 U E B g s (jtabM E s.m d imm aux bank)) := by
 obtain ⟨HZ, HR, HU⟩ := box_z h 133 d si imm aux bank size
 have OK := Lib.hid ok
 have K0 := Lib.hid k0
 have HD := Lib.hid hd
 have HI := Lib.hid hi
 have HL := Lib.hid hs
 have HE := Lib.hid hE
 clear hE
 have d0 : (0 : Int) ≤ (d : Int) := by omega
 have d1 : (d : Int) < 8 := by omega
 clear h ok k0 hd hi hs
 obtain ⟨pc, hpc⟩ : ∃ pc, s.m.pc = pc := ⟨_, rfl⟩
 have HPC := Lib.hid hpc
 rw [hpc]
 clear hpc
 go_enter Tryz.func33, Tryz.ntmps33
 go_upto_region 1 with (fail)
 generalize V.alloc _ = W0 at *
 obtain ⟨q, hq⟩ : ∃ q, V.heap.size = q := ⟨_, rfl⟩
 rw [hq] at HZ ⊢
 clear hq
 obtain ⟨i0, i1, i2, i3, i4, i5, i6⟩ := HZ.out.at (Kz.refl b0 W0)
 have HBL := Lib.hid hl
 clear hl
 have xw : IntKind.u16.wrap (pc + imm) = (pc + imm) % 65536 := IntKind.wrap_u16 _
 have c15 := HR.out.cell 15 (.int .u16 pc) (fun _ _ => by rw [← HPC.out]; rfl)
 have z15 := HR.out.frz 15
 go_upto_region 27 with (fail)
 clear i0 i1 i2 i3 i4 i5 i6
 generalize eA : World.setCell _ _ _ = WA
 have HWA := Lib.hid (HR.out.put (s' := { s with m := { s.m with pc := (pc + imm) % 65536 } }) 15 _ eA (fun _ _ => rfl) rfl rfl rfl)
 obtain ⟨i0, i1, i2, i3, i4, i5, i6⟩ := HZ.out.at HWA.out.2
 clear eA c15 z15
 clear i0 i1 i2 i3 i4 i5 i6
 have x3 : IntKind.i64.wrap (s.m.R d) = s.m.R d := by have := OK.out.R d; unfold OkU16 at this; exact IntWalk.i64_in _ (by omega)
 have HX3 := Lib.hid x3
 refine wp_region_flow (S := fun W => Below WA.heap.size WA W) (by kernel_rfl) (by kernel_rfl) (Below.drew (Below.refl _ _)) ?_
 iterate 12
  apply Flow.step
  ·intro V2 K hS hK
   obtain ⟨i0, i1, i2, i3, i4, i5, i6⟩ := HZ.out.at (HWA.out.2.next hS)
   have cR := (HWA.out.next hS).cellR d HD.out
   go_simp
   exact hK _ hS
  simp only [lQ]
 refine Flow.done ?_
 intro V2 hS
 have HW2 := Lib.hid (HWA.out.next hS)
 clear hS x3
 obtain ⟨i0, i1, i2, i3, i4, i5, i6⟩ := HZ.out.at HW2.out.2
 obtain ⟨cb, hcb⟩ : ∃ cb, decide (s.m.R d < bank) = cb := ⟨_, rfl⟩
 rw [hcb]
 have HCB := Lib.hid hcb
 clear hcb
 cases cb
 ·have HB : Hid (¬ s.m.R d < bank) := Lib.hid (of_decide_eq_false HCB.out)
  go_wp2_with fail
  refine ends (v := .tuple #[]) (by simp [results, Tryz.results33]) rfl ⟨rfl, _, HU.out.from HW2.out, ?_⟩
  unfold EndsR jtabM
  rw [if_neg (by have := HB.out; omega)]
  simp only [addPc, HPC.out]
 have HB : Hid (s.m.R d < bank) := Lib.hid (of_decide_eq_true HCB.out)
 obtain ⟨rd, hrd⟩ : ∃ x, 2 * s.m.R d % 65536 = x := ⟨_, rfl⟩
 obtain ⟨a, ha⟩ : ∃ a, (aux + rd) % 65536 = a := ⟨_, rfl⟩
 have r1 : IntKind.u16.wrap (2 * s.m.R d) = rd := (IntKind.wrap_u16 _).trans hrd
 have r2 : IntKind.u16.wrap (aux + rd) = a := (IntKind.wrap_u16 _).trans ha
 have HRD := Lib.hid hrd
 have HA := Lib.hid ha
 have HAO : Hid (OkU16 a) := Lib.hid (by rw [← ha]; exact ⟨by omega, by omega⟩)
 clear hrd ha
 have HP : Hid (∀ W, RM b0 W0 E B g { s with m := { s.m with pc := (pc + imm) % 65536 } } W → Calls Tryz.prog 59 #[.pointer (some ⟨B, 0, none⟩), .int .u16 a] W (Leaves0 b0 W0 E B g (rjump E { s with m := { s.m with pc := (pc + imm) % 65536 } } a))) := Lib.hid fun W hW => jump_z hW (HE.out.kz HU.out.2) HBL.out OK.out.bank a HAO.out
 go_upto_region 28 with (fail)
 clear i0 i1 i2 i3 i4 i5 i6
 refine' wp_region_flowR [[], [], [(142, 1)], [], [], [(145, 4)], [(144, 3)], [(147, 6)], [(148, 7)], [(149, 8), (146, 5)], [(150, 9)], [(151, 10)], [(143, 2), (152, 11)], [(141, 0), (142, 1), (143, 2), (144, 3), (145, 4), (146, 5), (147, 6), (148, 7), (149, 8), (150, 9), (151, 10), (152, 11), (153, 12)]] (relL [eqV _, eqV _, eqV _, eqV _, eqV _, eqV _, eqV _, eqV _, eqV _, eqV _, eqV _, eqV _, eqV _]) (by kernel_rfl) (by kernel_rfl) ?_
 rotate_left 13
 iterate 13
  refine FlowR.step ?_ ?_
  ·intro V hV
   simp only [Dep, lQ]
   repeat rintro _ ⟨_, rfl, _⟩
   intro K hK
   obtain ⟨i0, i1, i2, i3, i4, i5, i6⟩ := HZ.out.at (HW2.out.2.next hV)
   have cR : V.cell? ⟨B, 7 + d, none⟩ = some (.int .u16 (s.m.R d)) := (HW2.out.next hV).cellR d HD.out
   go_simp
   refine hK _ _ ?_ (Below.refl _ _)
   simp only [lR]
   exact rfl
 refine FlowR.last ?_
 intro V hV
 simp only [Dep, lQ]
 repeat rintro _ ⟨_, rfl, _⟩
 intro K hK
 obtain ⟨i0, i1, i2, i3, i4, i5, i6⟩ := HZ.out.at (HW2.out.2.next hV)
 have cR : V.cell? ⟨B, 7 + d, none⟩ = some (.int .u16 (s.m.R d)) := (HW2.out.next hV).cellR d HD.out
 go_simp
 go_at_call 59
 refine (HP.out _ (HW2.out.next hV)).mono ?_
 rintro e w ⟨rfl, hw⟩
 refine hK _ _ ?_
 have HW := Lib.hid hw
 clear hw hV hK i0 i1 i2 i3 i4 i5 i6 cR
 obtain ⟨i0, i1, i2, i3, i4, i5, i6⟩ := HZ.out.at HW.out.2
 go_wp2_with fail
 refine ends (v := .tuple #[]) (by simp [results, Tryz.results33]) rfl ⟨rfl, _, HU.out.from HW.out, ?_⟩
 unfold jtabM
 rw [if_pos HB.out, HRD.out, HA.out]
 have h9 := rjump_eq (E := E) (s := { s with m := { s.m with pc := (pc + imm) % 65536 } }) K0.out a HAO.out
 unfold addPc
 rw [HPC.out]
 unfold EndsR at h9 ⊢
 exact h9
end Go.Proofs.YtieaicdihingkaaGreat
