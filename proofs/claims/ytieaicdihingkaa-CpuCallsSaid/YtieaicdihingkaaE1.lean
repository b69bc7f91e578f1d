/- The reference's Valid and Encode, for some formats. -/
import Derived.Test.YtieaicdihingkaaE0
import Derived.Test.YtieaicdihingkaaHK
namespace Go.Proofs.Ytieaicdihingkaa
set_option linter.unusedVariables false
set_option linter.unusedSimpArgs false
open Go.RowKit
/-- What an instruction of these formats must be like. -/
structure EncIn (op f z d imm : Int) : Prop where
 mem : (op, f, z) ∈ fmtsL
 hd : 0 ≤ d ∧ d < 8
 him : OkU16 imm
 f1 : f = 1 → d = 0 ∧ imm = 0
 f2 : f = 2 → imm = 0
 f3 : f = 3 → d = 0 ∧ imm < 256
 f18 : f = 18 → imm < 128 ∨ 65408 ≤ imm
 f15 : f = 15 → imm < 256
theorem EncIn.cases {op f z d imm : Int} (h : EncIn op f z d imm) : (f = 1 ∨ f = 2 ∨ f = 3 ∨ f = 18 ∨ f = 15) ∧ (0 ≤ op ∧ op < 256) := by
 have h := h.mem
 simp only [fmtsL, List.mem_cons, Prod.mk.injEq, List.not_mem_nil, or_false] at h
 omega
set_option maxRecDepth 20000 in
set_option maxHeartbeats 8000000 in
theorem rvalid_at (op f z d imm : Int) (w : World) (h : EncIn op f z d imm) : Calls Try.prog 27 #[.agg #[.int .i64 op, .int .i64 d, .int .i64 0, .int .u16 imm, .int .u16 0, .int .i64 0, .int .i64 z]] w (fun e w' => e = .returned (.bool true) ∧ Below w.heap.size w w') := by
 have HF := Lib.hid fun W => format_at op f z W h.mem
 have HZ := Lib.hid fun W => rsize_at op f z W h.mem
 have H := Lib.hid h
 have hfc := h.cases
 have HFC := Lib.hid hfc.1
 have g0 : (f == 0) = false := by rw [beq_eq_false_iff_ne]; omega
 have gz : (z == z) = true := beq_self_eq_true z
 have qo : IntKind.u8.wrap op = op := by rw [IntKind.wrap_u8]; omega
 obtain ⟨sg, hsg⟩ : ∃ sg, (decide (imm < 128) || decide (65408 ≤ imm)) = sg := ⟨_, rfl⟩
 have HSG := Lib.hid hsg
 clear hfc h hsg
 go_enter Try.func27, Try.ntmps27
 go_upto_region 1 with (fail)
 generalize e0 : w.alloc _ = W0
 have HB0 := Lib.hid (al_bel e0)
 have KC : Hid (∀ W, Below W0.heap.size W0 W → W.cell? ⟨w.heap.size, 0, none⟩ = some (.int .i64 op) ∧ W.cell? ⟨w.heap.size, 1, none⟩ = some (.int .i64 d) ∧ W.cell? ⟨w.heap.size, 2, none⟩ = some (.int .i64 0) ∧ W.cell? ⟨w.heap.size, 3, none⟩ = some (.int .u16 imm) ∧ W.cell? ⟨w.heap.size, 4, none⟩ = some (.int .u16 0) ∧ W.cell? ⟨w.heap.size, 5, none⟩ = some (.int .i64 0) ∧ W.cell? ⟨w.heap.size, 6, none⟩ = some (.int .i64 z)) := Lib.hid fun W hW => by
  have hc := Lib.cell_of_heap (at_next hW (al_blk e0))
  exact ⟨hc 0, hc 1, hc 2, hc 3, hc 4, hc 5, hc 6⟩
 clear e0
 obtain ⟨i0, i1, i2, i3, i4, i5, i6⟩ := KC.out W0 (Below.refl _ _)
 go_wp2_with fail
 refine (HF.out _).mono ?_
 rintro e w1 ⟨rfl, h1⟩
 have HB1 := Lib.hid h1
 clear i0 i1 i2 i3 i4 i5 i6 h1
 go_upto_region 2 with (fail)
 refine wp_region_flow (S := fun W => Below w1.heap.size w1 W) (by kernel_rfl) (by kernel_rfl) (Below.drew (Below.refl _ _)) ?_
 iterate 4
  apply Flow.step
  ·intro V2 K hS hK
   go_simp
   exact hK _ hS
  simp only [lQ]
 apply Flow.step
 ·intro V2 K hS hK
  obtain ⟨i0, i1, i2, i3, i4, i5, i6⟩ := KC.out _ (below_next HB1.out hS)
  go_simp
  exact hK _ hS
 simp only [lQ]
 apply Flow.step
 ·intro V2 K hS hK
  go_simp
  exact hK _ hS
 simp only [lQ]
 apply Flow.step
 ·intro V2 K hS hK
  obtain ⟨i0, i1, i2, i3, i4, i5, i6⟩ := KC.out _ (below_next HB1.out hS)
  go_simp
  exact hK _ hS
 simp only [lQ]
 apply Flow.step
 ·intro V2 K hS hK
  go_simp
  exact hK _ hS
 simp only [lQ]
 apply Flow.step
 ·intro V2 K hS hK
  go_simp
  go_at_call 44
  refine (HZ.out _).mono ?_
  rintro e w9 ⟨rfl, h9⟩
  exact hK _ (below_next hS h9)
 simp only [lQ]
 iterate 2
  apply Flow.step
  ·intro V2 K hS hK
   go_simp
   exact hK _ hS
  simp only [lQ]
 refine Flow.done ?_
 intro V2 hS
 have HB2 := Lib.hid (below_next HB1.out hS)
 clear hS
 obtain ⟨i0, i1, i2, i3, i4, i5, i6⟩ := KC.out V2 HB2.out
 have hd0 : decide (0 ≤ d) = true := decide_eq_true H.out.hd.1
 have hd1 : decide (d < 8) = true := decide_eq_true H.out.hd.2
 go_wp2_with fail
 refine (reg_any' d true _ hd0 hd1).mono ?_
 rintro e w3 ⟨rfl, rfl⟩
 go_wp2_with fail
 refine (reg_any' 0 true _ rfl rfl).mono ?_
 rintro e w3 ⟨rfl, rfl⟩
 go_wp2_with fail
 refine (rsgn_any imm _ _ _ rfl rfl).mono ?_
 rintro e w3 ⟨rfl, rfl⟩
 rw [HSG.out]
 clear hd0 hd1
 go_upto_region 13 with (fail)
 rcases HFC.out with rfl | rfl | rfl | rfl | rfl
 ·obtain ⟨rfl, rfl⟩ := H.out.f1 rfl
  go_wp2_with fail
  exact bodyPost_ret (v := .bool true) (by simp [results, Try.results27, go_sem]) rfl ⟨rfl, below_next HB0.out HB2.out⟩
 ·obtain rfl := H.out.f2 rfl
  go_wp2_with fail
  exact bodyPost_ret (v := .bool true) (by simp [results, Try.results27, go_sem]) rfl ⟨rfl, below_next HB0.out HB2.out⟩
 ·obtain ⟨rfl, hi⟩ := H.out.f3 rfl
  have hi2 : decide (imm < 256) = true := decide_eq_true hi
  clear hi
  go_wp2_with fail
  exact bodyPost_ret (v := .bool true) (by simp [results, Try.results27, go_sem]) rfl ⟨rfl, below_next HB0.out HB2.out⟩
 ·obtain rfl : true = sg := by
   rw [← HSG.out]
   rcases H.out.f18 rfl with h | h <;> simp [h]
  go_wp2_with fail
  exact bodyPost_ret (v := .bool true) (by simp [results, Try.results27, go_sem]) rfl ⟨rfl, below_next HB0.out HB2.out⟩
 ·have hi2 : decide (imm < 256) = true := decide_eq_true (H.out.f15 rfl)
  go_wp2_with fail
  exact bodyPost_ret (v := .bool true) (by simp [results, Try.results27, go_sem]) rfl ⟨rfl, below_next HB0.out HB2.out⟩
def rencL (op f d imm : Int) : List Int := if f = 1 then [op] else if f = 2 then [op, d] else if f = 3 then [op, imm % 256] else [op, d, imm % 256]
def rencB (op f d imm : Int) : ByteArray := ⟨(bytesI (rencL op f d imm)).toArray⟩
theorem renc_bd {op f z d imm : Int} (h : EncIn op f z d imm) : ∀ x ∈ rencL op f d imm, 0 ≤ x ∧ x < 256 := by
 have h1 := h.cases.2
 have h2 := h.hd
 intro x hx
 unfold rencL at hx
 repeat' split at hx
 all_goals (simp at hx; omega)
theorem renc_len (op f d imm : Int) : 1 ≤ (rencL op f d imm).length ∧ (rencL op f d imm).length ≤ 3 := by
 unfold rencL
 repeat' split
 all_goals simp
theorem sl_cells (W : World) (l : List Value) (j : Nat) (u : Value) (h : l[j]? = some u) : (W.alloc (.cells l.toArray 5)).cell? ((⟨W.heap.size, 0, none⟩ : Addr).add j) = some u := by
 rw [show (⟨W.heap.size, 0, none⟩ : Addr).add j = ⟨W.heap.size, j, none⟩ from by unfold Addr.add; by_cases hj : j = 0 <;> simp [hj], Lib.cell_of_heap (alloc_at W _) j]
 simpa using h
theorem renc_conv {op f z d imm : Int} (h : EncIn op f z d imm) {V : World} {v : Value} {b : Nat} (ho : V.ownsRow b 5 1 v (rencL op f d imm).length ((rencL op f d imm).map (Value.int .u8))) : (convert 49 9 v).run Try.prog V = .ok (.string (rencB op f d imm)) V :=
 back_run V v (bytesI (rencL op f d imm)) b _ (by rw [bytesI_cells _ (renc_bd h)]; exact OwnsM.of ho) (by
  have := (renc_len op f d imm).1
  intro e
  rw [bytesI, List.map_eq_nil_iff] at e
  rw [e] at this
  exact absurd this (by decide))
set_option maxRecDepth 20000 in
set_option maxHeartbeats 8000000 in
theorem rencode_at (op f z d imm : Int) (w : World) (h : EncIn op f z d imm) : Calls Try.prog 11 #[.agg #[.int .i64 op, .int .i64 d, .int .i64 0, .int .u16 imm, .int .u16 0, .int .i64 0, .int .i64 z]] w (fun e w' => e = .returned (.tuple #[.string (rencB op f d imm), .int .i64 0]) ∧ Below w.heap.size w w') := by
 obtain ⟨i5, hi5, hz5, hs5, hb5⟩ : ∃ i5, Try.prog.info? 5 = some i5 ∧ i5.zero = some (.int .u8 0) ∧ i5.size = 1 ∧ i5.bytes = 1 := by
  have := info5
  cases h : Try.prog.info? 5 with
  | none => rw [h] at this; cases this
  | some x => rw [h] at this; simp at this; exact ⟨x, rfl, this⟩
 have KN := Lib.hid (And.intro hi5 (And.intro hz5 (And.intro hs5 hb5)))
 have HF := Lib.hid fun W => format_at op f z W h.mem
 have HV := Lib.hid fun W => rvalid_at op f z d imm W h
 have H := Lib.hid h
 have hfc := h.cases
 have HFC := Lib.hid hfc.1
 have g0 : (f == 0) = false := by rw [beq_eq_false_iff_ne]; omega
 have qo : IntKind.u8.wrap op = op := by rw [IntKind.wrap_u8]; omega
 have hd := h.hd
 have qd : IntKind.u8.wrap d = d := by rw [IntKind.wrap_u8]; omega
 have q16 : IntKind.i64.wrap (16 * d) = 16 * d := IntWalk.i64_in _ (by omega)
 have him := h.him
 have m0 := him.1
 have m1 := him.2
 clear hfc h hi5 hz5 hs5 hb5 hd him
 go_enter Try.func11, Try.ntmps11
 go_upto_region 1 with (fail)
 generalize e0 : w.alloc _ = W0
 have HB0 := Lib.hid (al_bel e0)
 have KC : Hid (∀ W, Below W0.heap.size W0 W → W.cell? ⟨w.heap.size, 0, none⟩ = some (.int .i64 op) ∧ W.cell? ⟨w.heap.size, 1, none⟩ = some (.int .i64 d) ∧ W.cell? ⟨w.heap.size, 2, none⟩ = some (.int .i64 0) ∧ W.cell? ⟨w.heap.size, 3, none⟩ = some (.int .u16 imm) ∧ W.cell? ⟨w.heap.size, 4, none⟩ = some (.int .u16 0) ∧ W.cell? ⟨w.heap.size, 5, none⟩ = some (.int .i64 0) ∧ W.cell? ⟨w.heap.size, 6, none⟩ = some (.int .i64 z)) := Lib.hid fun W hW => by
  have hc := Lib.cell_of_heap (at_next hW (al_blk e0))
  exact ⟨hc 0, hc 1, hc 2, hc 3, hc 4, hc 5, hc 6⟩
 clear e0
 obtain ⟨i0, i1, i2, i3, i4, i5', i6⟩ := KC.out W0 (Below.refl _ _)
 go_wp2_with fail
 refine (HF.out _).mono ?_
 rintro e w1 ⟨rfl, h1⟩
 have HB1 := Lib.hid h1
 clear i0 i1 i2 i3 i4 i5' i6 h1
 obtain ⟨i0, i1, i2, i3, i4, i5', i6⟩ := KC.out w1 HB1.out
 go_wp2_with fail
 refine (HV.out _).mono ?_
 rintro e w2 ⟨rfl, h2⟩
 have HB2 := Lib.hid (below_next HB1.out h2)
 clear i0 i1 i2 i3 i4 i5' i6 h2
 obtain ⟨i0, i1, i2, i3, i4, i5', i6⟩ := KC.out w2 HB2.out
 go_upto_region 8 with (fail)
 generalize e3 : w2.alloc _ = W3
 have KO3 : Hid (W3.ownsRow w2.heap.size 5 1 (.slice (some ⟨w2.heap.size, 0, none⟩) 1 1) 1 [.int .u8 op]) := Lib.hid ⟨rfl, .inr ⟨w2.heap.size, 1, _, rfl, Nat.le_refl _, al_blk e3, by omega, by decide, rfl, rfl⟩⟩
 have HB3 := Lib.hid (below_next HB2.out (al_bel e3))
 have HS3 : Hid (w2.heap.size ≤ W3.heap.size) := Lib.hid (al_bel e3).size
 have HQ3 := Lib.hid (al_bel e3)
 clear e3 i0 i1 i2 i3 i4 i5' i6
 obtain ⟨i0, i1, i2, i3, i4, i5', i6⟩ := KC.out W3 HB3.out
 go_wp2_with fail
 refine (two_any imm _ m0 m1).mono ?_
 rintro e w4 ⟨rfl, rfl⟩
 generalize e4 : W3.alloc _ = W4
 have HT4 := Lib.hid (al_blk e4)
 have KO4 := Lib.hid (own_next KO3.out (al_bel e4))
 have HB4 := Lib.hid (below_next HB3.out (al_bel e4))
 have HQ4 := Lib.hid (below_next HQ3.out (al_bel e4))
 have HS4 : Hid (w2.heap.size ≤ W4.heap.size) := Lib.hid (Nat.le_trans HS3.out (al_bel e4).size)
 clear e4 i0 i1 i2 i3 i4 i5' i6
 obtain ⟨i0, i1, i2, i3, i4, i5', i6⟩ := KC.out W4 HB4.out
 go_wp2_with fail
 refine (two_any 0 _ (by decide) (by decide)).mono ?_
 rintro e w5 ⟨rfl, rfl⟩
 generalize e5 : W4.alloc _ = W5
 have HT5 := Lib.hid (at_next (al_bel e5) HT4.out)
 have KO5 := Lib.hid (own_next KO4.out (al_bel e5))
 have HB5 := Lib.hid (below_next HB4.out (al_bel e5))
 have HQ5 := Lib.hid (below_next HQ4.out (al_bel e5))
 have HS5 : Hid (w2.heap.size ≤ W5.heap.size) := Lib.hid (Nat.le_trans HS4.out (al_bel e5).size)
 have HBZ := Lib.hid (below_next HB0.out HB5.out)
 clear e5 i0 i1 i2 i3 i4 i5' i6 q16 qo qd g0 m0 m1
 go_upto_region 13 with (fail)
 rcases HFC.out with rfl | rfl | rfl | rfl | rfl
 ·have HCV := renc_conv (b := w2.heap.size) H.out (V := W5) KO5.out
  go_wp2_with fail
  exact bodyPost_ret (v := .tuple #[.string (rencB op 1 d imm), .int .i64 0]) (by simp [results, Try.results11, go_sem]) rfl ⟨rfl, HBZ.out⟩
 ·skip
  go_wp2_with (at_builtin; refine Hid.out ?_)
  refine Lib.hid ?_
  refine wpList_append_own _ rfl _ _ 49 rfl w2.heap.size 5 i5 (.int .u8 0) 1 1 Try.underlying49 KN.out.1 KN.out.2.1 KN.out.2.2.1 KN.out.2.2.2 rfl (by decide) _ _ _ rfl (own_next KO5.out (below1 W5 _)) _ _ _ ([d].map (Value.int .u8)) rfl (by simp) (fun j u hu => sl_cells W5 [.int .u8 d] j u hu) (one_bytes _) (by decide) (by decide) (Nat.le_trans HS5.out (below1 W5 _).size) ?_
  intro v7 w7 hown7 hg7 _
  have HB7 := Lib.hid (below_next (below_next HB0.out HB2.out) (below_grown (below_alloc HQ5.out (Obj.cells #[.int .u8 d] 5)) (below_alloc HQ5.out (Obj.cells #[.int .u8 d] 5)).size hg7 (fun q hq => ((own_next KO5.out (below1 W5 (Obj.cells #[.int .u8 d] 5))).lt q hq).1)))
  have HCV := renc_conv (b := w2.heap.size) H.out (V := w7) (v := v7) hown7
  go_wp2_with fail
  exact bodyPost_ret (v := .tuple #[.string (rencB op 2 d imm), .int .i64 0]) (by simp [results, Try.results11, go_sem]) rfl ⟨rfl, HB7.out⟩
 ·skip
  have c9 : W5.cell? ⟨W3.heap.size, 0, none⟩ = some (.int .u8 (imm % 256)) := Lib.cell_of_heap HT5.out 0
  go_wp2_with (at_builtin; refine Hid.out ?_)
  refine Lib.hid ?_
  refine wpList_append_own _ rfl _ _ 49 rfl w2.heap.size 5 i5 (.int .u8 0) 1 1 Try.underlying49 KN.out.1 KN.out.2.1 KN.out.2.2.1 KN.out.2.2.2 rfl (by decide) _ _ _ rfl (own_next KO5.out (below1 W5 _)) _ _ _ ([(imm % 256)].map (Value.int .u8)) rfl (by simp) (fun j u hu => sl_cells W5 [.int .u8 (imm % 256)] j u hu) (one_bytes _) (by decide) (by decide) (Nat.le_trans HS5.out (below1 W5 _).size) ?_
  intro v7 w7 hown7 hg7 _
  have HB7 := Lib.hid (below_next (below_next HB0.out HB2.out) (below_grown (below_alloc HQ5.out (Obj.cells #[.int .u8 (imm % 256)] 5)) (below_alloc HQ5.out (Obj.cells #[.int .u8 (imm % 256)] 5)).size hg7 (fun q hq => ((own_next KO5.out (below1 W5 (Obj.cells #[.int .u8 (imm % 256)] 5))).lt q hq).1)))
  have HCV := renc_conv (b := w2.heap.size) H.out (V := w7) (v := v7) hown7
  go_wp2_with fail
  exact bodyPost_ret (v := .tuple #[.string (rencB op 3 d imm), .int .i64 0]) (by simp [results, Try.results11, go_sem]) rfl ⟨rfl, HB7.out⟩
 ·skip
  have c9 : W5.cell? ⟨W3.heap.size, 0, none⟩ = some (.int .u8 (imm % 256)) := Lib.cell_of_heap HT5.out 0
  go_wp2_with (at_builtin; refine Hid.out ?_)
  refine Lib.hid ?_
  refine wpList_append_own _ rfl _ _ 49 rfl w2.heap.size 5 i5 (.int .u8 0) 1 1 Try.underlying49 KN.out.1 KN.out.2.1 KN.out.2.2.1 KN.out.2.2.2 rfl (by decide) _ _ _ rfl (own_next KO5.out (below1 W5 _)) _ _ _ ([d, (imm % 256)].map (Value.int .u8)) rfl (by simp) (fun j u hu => sl_cells W5 [.int .u8 d, .int .u8 (imm % 256)] j u hu) (one_bytes _) (by decide) (by decide) (Nat.le_trans HS5.out (below1 W5 _).size) ?_
  intro v7 w7 hown7 hg7 _
  have HB7 := Lib.hid (below_next (below_next HB0.out HB2.out) (below_grown (below_alloc HQ5.out (Obj.cells #[.int .u8 d, .int .u8 (imm % 256)] 5)) (below_alloc HQ5.out (Obj.cells #[.int .u8 d, .int .u8 (imm % 256)] 5)).size hg7 (fun q hq => ((own_next KO5.out (below1 W5 (Obj.cells #[.int .u8 d, .int .u8 (imm % 256)] 5))).lt q hq).1)))
  have HCV := renc_conv (b := w2.heap.size) H.out (V := w7) (v := v7) hown7
  go_wp2_with fail
  exact bodyPost_ret (v := .tuple #[.string (rencB op 18 d imm), .int .i64 0]) (by simp [results, Try.results11, go_sem]) rfl ⟨rfl, HB7.out⟩
 ·skip
  have c9 : W5.cell? ⟨W3.heap.size, 0, none⟩ = some (.int .u8 (imm % 256)) := Lib.cell_of_heap HT5.out 0
  go_wp2_with (at_builtin; refine Hid.out ?_)
  refine Lib.hid ?_
  refine wpList_append_own _ rfl _ _ 49 rfl w2.heap.size 5 i5 (.int .u8 0) 1 1 Try.underlying49 KN.out.1 KN.out.2.1 KN.out.2.2.1 KN.out.2.2.2 rfl (by decide) _ _ _ rfl (own_next KO5.out (below1 W5 _)) _ _ _ ([d, (imm % 256)].map (Value.int .u8)) rfl (by simp) (fun j u hu => sl_cells W5 [.int .u8 d, .int .u8 (imm % 256)] j u hu) (one_bytes _) (by decide) (by decide) (Nat.le_trans HS5.out (below1 W5 _).size) ?_
  intro v7 w7 hown7 hg7 _
  have HB7 := Lib.hid (below_next (below_next HB0.out HB2.out) (below_grown (below_alloc HQ5.out (Obj.cells #[.int .u8 d, .int .u8 (imm % 256)] 5)) (below_alloc HQ5.out (Obj.cells #[.int .u8 d, .int .u8 (imm % 256)] 5)).size hg7 (fun q hq => ((own_next KO5.out (below1 W5 (Obj.cells #[.int .u8 d, .int .u8 (imm % 256)] 5))).lt q hq).1)))
  have HCV := renc_conv (b := w2.heap.size) H.out (V := w7) (v := v7) hown7
  go_wp2_with fail
  exact bodyPost_ret (v := .tuple #[.string (rencB op 15 d imm), .int .i64 0]) (by simp [results, Try.results11, go_sem]) rfl ⟨rfl, HB7.out⟩
end Go.Proofs.Ytieaicdihingkaa
