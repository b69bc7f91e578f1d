/- arith: the arithmetic instructions. -/
import Derived.Test.YtieaicdihingkaaGreatK10
namespace Go.Proofs.YtieaicdihingkaaGreat
set_option linter.unusedVariables false
set_option linter.unusedSimpArgs false
open Go.RowKit
def resI (op a b : Int) : Option Int :=
 if op = 37 ∨ op = 41 then some (bits .and .u16 a b) else if op = 38 then some (bits .or .u16 a b) else if op = 39 then some (bits .xor .u16 a b)
 else if op = 42 then some ((a * b) % 65536) else if op = 43 then (if b = 0 then none else some (a / b)) else some (shN (op - 44) a (b % 16).toNat)
def setRF (m : Mach) (d : Nat) (f r : Int) : Mach := { { m with f := f } with R := setR m.R d r }
def arithM (m : Mach) (op : Int) (d : Nat) (b : Int) : Except (Int × Int) Mach :=
 if op = 32 then .ok { m with R := setR m.R d b }
 else if op = 33 ∨ op = 34 then .ok (setRF m d (addF (m.R d) b (decide (op = 34) && fc m.f)) (addR (m.R d) b (decide (op = 34) && fc m.f)))
 else if op = 35 ∨ op = 36 then .ok (setRF m d (subF (m.R d) b (!decide (op = 36) || fc m.f)) (subR (m.R d) b (!decide (op = 36) || fc m.f)))
 else if op = 40 then .ok { m with f := subF (m.R d) b true }
 else match resI op (m.R d) b with
  | none => .error (4, 0)
  | some r => if op = 41 then .ok { m with f := withI m.f r } else .ok (setRF m d (withI m.f r) r)
theorem addR_ok (a b : Int) (c : Bool) : OkU16 (addR a b c) := by unfold OkU16 addR; omega
theorem addF_ok (a b : Int) (c : Bool) : OkU16 (addF a b c) := by
 have := halfI_bd (addR a b c)
 unfold OkU16 addF
 repeat' split
 all_goals omega
theorem withI_ok (f r : Int) : OkU16 (withI f r) := by
 have := halfI_bd r
 unfold OkU16 withI; omega
theorem bitsU16_ok (op : BinOp) (h : op = .and ∨ op = .or ∨ op = .xor) (a b : Int) (a0 : 0 ≤ a) (a1 : a < 65536) (b0 : 0 ≤ b) (b1 : b < 65536) : OkU16 (bits op .u16 a b) := by
 unfold OkU16
 rcases h with rfl | rfl | rfl
 ·rw [u16_and a b a0 a1 b0 b1]; have := Nat.and_lt_two_pow (n := 16) a.toNat (y := b.toNat) (by omega); omega
 ·rw [u16_or a b a0 a1 b0 b1]; have := Nat.or_lt_two_pow (n := 16) (x := a.toNat) (y := b.toNat) (by omega) (by omega); omega
 ·rw [u16_xor a b a0 a1 b0 b1]; have := Nat.xor_lt_two_pow (n := 16) (x := a.toNat) (y := b.toNat) (by omega) (by omega); omega
theorem shN_ok (k a : Int) (j : Nat) (a0 : 0 ≤ a) (a1 : a < 65536) : OkU16 (shN k a j) := by
 unfold OkU16 shN
 have h2 : (0 : Int) < 2 ^ j := Int.pow_pos (by omega)
 repeat' split
 ·omega
 ·exact ⟨Int.ediv_nonneg a0 (by omega), Int.lt_of_le_of_lt (Int.ediv_le_self _ a0) a1⟩
 ·omega
 ·omega
theorem resI_ok {op a b r : Int} (ha : OkU16 a) (hb : OkU16 b) (h : resI op a b = some r) : OkU16 r := by
 obtain ⟨a0, a1⟩ := ha
 obtain ⟨b0, b1⟩ := hb
 unfold resI at h
 repeat' split at h
 all_goals first | (cases h; done) | (simp only [Option.some.injEq] at h; subst h)
 ·exact bitsU16_ok _ (.inl rfl) a b a0 a1 b0 b1
 ·exact bitsU16_ok _ (.inr (.inl rfl)) a b a0 a1 b0 b1
 ·exact bitsU16_ok _ (.inr (.inr rfl)) a b a0 a1 b0 b1
 ·unfold OkU16; omega
 ·exact ⟨Int.ediv_nonneg a0 b0, Int.lt_of_le_of_lt (Int.ediv_le_self _ a0) a1⟩
 ·exact shN_ok _ _ _ a0 a1
theorem resW_below (w : World) : Below w.heap.size w (resW w) := below_alloc (below_alloc (below_alloc (below1 w _) _) _) _
theorem resW_get (w : World) (k : Int) (i : Nat) (v : Value) (hf : Instr.findNow (.int .i64) (.int .i64 k) (resE w).toList 0 = some (some (i, v))) : (Instr.lookup 104 (.map (some w.heap.size)) (.int .i64 k) false).run Tryz.prog (resW w) = .ok v (resW w) :=
 run_get_at Tryz.underlying104 Tryz.underlying3 _ (resE w) 9 k v w.heap.size i (blk_mid3 w _ _ _ _) hf
theorem resW_lt (w : World) (k : Nat) (hk : k ≤ 3) : w.heap.size + k < (resW w).heap.size := by unfold resW; simp; omega
theorem resW_cell0 (w : World) : (resW w).cell? ⟨w.heap.size + 1, 0, none⟩ = some (.int .i64 0) := by
 have h := blk_mid2 (w.alloc (.map (resE w) 9)) (.cells #[.int .i64 0] 3) (.cells #[.int .i64 1] 3) (.cells #[.int .i64 2] 3)
 rw [World.size_alloc] at h
 exact Lib.cell_of_heap h 0
theorem resW_cell1 (w : World) : (resW w).cell? ⟨w.heap.size + 1 + 1, 0, none⟩ = some (.int .i64 1) := by
 have h := blk_mid1 ((w.alloc (.map (resE w) 9)).alloc (.cells #[.int .i64 0] 3)) (.cells #[.int .i64 1] 3) (.cells #[.int .i64 2] 3)
 rw [World.size_alloc, World.size_alloc] at h
 exact Lib.cell_of_heap h 0
theorem resW_cell2 (w : World) : (resW w).cell? ⟨w.heap.size + 1 + 1 + 1, 0, none⟩ = some (.int .i64 2) := by
 have h := alloc_at (((w.alloc (.map (resE w) 9)).alloc (.cells #[.int .i64 0] 3)).alloc (.cells #[.int .i64 1] 3)) (.cells #[.int .i64 2] 3)
 rw [World.size_alloc, World.size_alloc, World.size_alloc] at h
 exact Lib.cell_of_heap h 0
theorem MachAt.setRF {E : Env} {V : World} {m : Mach} {sv ov : Value} (h : MachAt E V m sv ov) (d : Nat) (hd : d < 8) {f r : Int} (hf : OkU16 f) (hr : OkU16 r) : MachAt E ((V.setCell ⟨E.B, 18, none⟩ (.int .u16 f)).setCell ⟨E.B, 7 + d, none⟩ (.int .u16 r)) (setRF m d f r) sv ov := (h.setF hf).setReg d hd hr
theorem MachAt.setRFK {E : Env} {V : World} {m : Mach} {sv ov : Value} (h : MachAt E V m sv ov) (d : Nat) {f : Int} (hf : OkU16 f) (r : Int) : Keeps E.base V ((V.setCell ⟨E.B, 18, none⟩ (.int .u16 f)).setCell ⟨E.B, 7 + d, none⟩ (.int .u16 r)) := (h.putK 18 _).trans ((h.setF hf).putK (7 + d) _)
theorem and_any (a b : Int) (w : World) : Calls Tryz.prog 92 #[.int .u16 a, .int .u16 b] w fun e w' => e = .returned (.int .u16 (bits .and .u16 a b)) ∧ Below w.heap.size w w' := by
 go_enter Tryz.func92, Tryz.ntmps92
 go_wp2
 go_ret
 exact ⟨rfl, Below.refl _ _⟩
theorem or_any (a b : Int) (w : World) : Calls Tryz.prog 96 #[.int .u16 a, .int .u16 b] w fun e w' => e = .returned (.int .u16 (bits .or .u16 a b)) ∧ Below w.heap.size w w' := by
 go_enter Tryz.func96, Tryz.ntmps96
 go_wp2
 go_ret
 exact ⟨rfl, Below.refl _ _⟩
theorem xor_any (a b : Int) (w : World) : Calls Tryz.prog 97 #[.int .u16 a, .int .u16 b] w fun e w' => e = .returned (.int .u16 (bits .xor .u16 a b)) ∧ Below w.heap.size w w' := by
 go_enter Tryz.func97, Tryz.ntmps97
 go_wp2
 go_ret
 exact ⟨rfl, Below.refl _ _⟩
theorem mul_any (a b : Int) (w : World) : Calls Tryz.prog 98 #[.int .u16 a, .int .u16 b] w fun e w' => e = .returned (.int .u16 ((a * b) % 65536)) ∧ Below w.heap.size w w' := by
 have hx : IntKind.u16.wrap (a * b) = (a * b) % 65536 := by rw [IntKind.wrap_u16]
 go_enter Tryz.func98, Tryz.ntmps98
 go_wp2
 go_ret
 exact ⟨rfl, Below.refl _ _⟩
theorem div_bad (a b : Int) (w : World) (h : b = 0) : Calls Tryz.prog 99 #[.int .u16 a, .int .u16 b] w fun e w' => e = trapE 4 0 ∧ Below w.heap.size w w' := by
 subst h
 go_enter Tryz.func99, Tryz.ntmps99
 go_wp2_with (go_at_call 34; refine (raise_any _ _ _).mono ?_; rintro e w' ⟨rfl, rfl⟩)
 exact panics rfl ⟨rfl, Below.refl _ _⟩
theorem div_ok (a b : Int) (w : World) (ha : OkU16 a) (hb : OkU16 b) (h0 : b ≠ 0) : Calls Tryz.prog 99 #[.int .u16 a, .int .u16 b] w fun e w' => e = .returned (.int .u16 (a / b)) ∧ Below w.heap.size w w' := by
 obtain ⟨a0, a1⟩ := ha
 obtain ⟨b0, b1⟩ := hb
 have d0 : (b == 0) = false := by rw [beq_eq_false_iff_ne]; exact h0
 have hx : a.tdiv b = a / b := Int.tdiv_eq_ediv_of_nonneg a0
 have hq0 : 0 ≤ a / b := Int.ediv_nonneg a0 b0
 have hq1 : a / b < 65536 := Int.lt_of_le_of_lt (Int.ediv_le_self _ a0) a1
 have hy : IntKind.u16.wrap (a / b) = a / b := by rw [IntKind.wrap_u16]; omega
 go_enter Tryz.func99, Tryz.ntmps99
 go_wp2
 go_ret
 exact ⟨rfl, Below.refl _ _⟩
theorem sh_any (k a b : Int) (n : Nat) (w : World) (hk : OkI64 k) (ha : OkU16 a) (hb : OkU16 b) (hc : w.cell? ⟨n, 0, none⟩ = some (.int .i64 k)) : Calls Tryz.prog 94 #[.int .u16 a, .int .u16 b, .pointer (some ⟨n, 0, none⟩)] w fun e w' => e = .returned (.int .u16 (shN k a (b % 16).toNat)) ∧ Below w.heap.size w w' := by
 have HC : Hid (∀ V, Calls Tryz.prog 95 #[.int .i64 k, .int .u16 a, .int .u16 b] V fun e w' => e = .returned (.int .u16 (shN k a (b % 16).toNat)) ∧ Below V.heap.size V w') := Lib.hid fun V => shift_any k a b V hk.1 hk.2 ha.1 ha.2 hb.1 hb.2
 go_enter Tryz.func94, Tryz.ntmps94
 go_wp2_with fail
 refine (HC.out _).mono ?_
 rintro e w1 ⟨rfl, h1⟩
 have HB := Lib.hid h1
 clear h1
 go_wp2_with fail
 go_ret
 exact ⟨rfl, HB.out⟩
set_option maxRecDepth 8000 in
set_option maxHeartbeats 4000000 in
theorem arith_32 {E : Env} {V : World} {m : Mach} {sv ov : Value} (h : MachAt E V m sv ov) (d : Nat) (hd : d < 8) (b : Int) (hb : OkU16 b) : Calls Tryz.prog 42 #[.pointer (some ⟨E.B, 0, none⟩), .int .i64 32, .int .i64 (d : Int), .int .u16 b] V (Done E V m sv ov (arithM m 32 d b)) := by
 have H := Lib.hid h
 have HD := Lib.hid hd
 have HB := Lib.hid hb
 have HA := Lib.hid (h.ok.R d)
 have HF := Lib.hid (h.ok.f)
 have hc2 := bit_c m.f h.ok.f.1 h.ok.f.2
 have d0 : (0 : Int) ≤ (d : Int) := by omega
 have d1 : (d : Int) < 8 := by omega
 clear h hd hb
 go_enter Tryz.func42, Tryz.ntmps42
 go_upto_region 0 with (fail)
 refine wp_region_flow (S := fun W => Below V.heap.size V W) (by kernel_rfl) (by kernel_rfl) (Below.drew (Below.refl _ _)) ?_
 iterate 16
  apply Flow.step
  ·intro V2 K hS hK
   obtain hM := H.out.next hS
   obtain cR := hM.cell (7 + d) _ (mcells_getR E m sv ov d HD.out)
   obtain c18 := hM.cell 18 _ rfl
   go_simp
   exact hK _ hS
  simp only [lQ]
 refine Flow.done ?_
 intro V2 hS
 have HM := Lib.hid (H.out.next hS)
 have HBel := Lib.hid hS
 clear hS
 have cR := HM.out.cell (7 + d) _ (mcells_getR E m sv ov d HD.out)
 have zR := HM.out.frz (7 + d)
 clear hc2
 go_wp2_with fail
 exact ends (v := .tuple #[]) (by simp [results, Tryz.results42]) rfl (done_ok (m' := { m with R := setR m.R d b }) rfl ⟨⟨_, _, HM.out.setReg d HD.out HB.out⟩, (Keeps.of_below HBel.out).trans (HM.out.putK (7 + d) _)⟩)
set_option maxRecDepth 8000 in
set_option maxHeartbeats 4000000 in
theorem arith_40 {E : Env} {V : World} {m : Mach} {sv ov : Value} (h : MachAt E V m sv ov) (d : Nat) (hd : d < 8) (b : Int) (hb : OkU16 b) : Calls Tryz.prog 42 #[.pointer (some ⟨E.B, 0, none⟩), .int .i64 40, .int .i64 (d : Int), .int .u16 b] V (Done E V m sv ov (arithM m 40 d b)) := by
 have H := Lib.hid h
 have HD := Lib.hid hd
 have HB := Lib.hid hb
 have HA := Lib.hid (h.ok.R d)
 have HF := Lib.hid (h.ok.f)
 have hc2 := bit_c m.f h.ok.f.1 h.ok.f.2
 have d0 : (0 : Int) ≤ (d : Int) := by omega
 have d1 : (d : Int) < 8 := by omega
 clear h hd hb
 go_enter Tryz.func42, Tryz.ntmps42
 go_upto_region 0 with (fail)
 refine wp_region_flow (S := fun W => Below V.heap.size V W) (by kernel_rfl) (by kernel_rfl) (Below.drew (Below.refl _ _)) ?_
 iterate 16
  apply Flow.step
  ·intro V2 K hS hK
   obtain hM := H.out.next hS
   obtain cR := hM.cell (7 + d) _ (mcells_getR E m sv ov d HD.out)
   obtain c18 := hM.cell 18 _ rfl
   go_simp
   exact hK _ hS
  simp only [lQ]
 refine Flow.done ?_
 intro V2 hS
 have HM := Lib.hid (H.out.next hS)
 have HBel := Lib.hid hS
 clear hS
 have HC : Hid (∀ W, Calls Tryz.prog 40 #[.int .u16 (m.R d), .int .u16 b, .bool true] W fun e w' => e = .returned (.tuple #[.int .u16 (subR (m.R d) b true), .int .u16 (subF (m.R d) b true)]) ∧ W = w') := Lib.hid fun W => sub_any (m.R d) b true W HA.out.1 HA.out.2 HB.out.1 HB.out.2
 have HR1 : Hid (arithM m 40 d b = .ok { m with f := subF (m.R d) b true }) := Lib.hid (by simp [arithM])
 have HOR : Hid (OkU16 (subR (m.R d) b true)) := Lib.hid (addR_ok _ _ _)
 have HOF : Hid (OkU16 (subF (m.R d) b true)) := Lib.hid (addF_ok _ _ _)
 generalize subR (m.R d) b true = r at *
 generalize subF (m.R d) b true = f at *
 clear hc2
 have c18 := HM.out.cell 18 _ rfl
 have z18 := HM.out.frz 18
 have hM2 := HM.out.setF HOF.out
 have cR := hM2.cell (7 + d) _ (mcells_getR E _ sv ov d HD.out)
 have zR := hM2.frz (7 + d)
 clear hM2
 go_wp2_with (go_at_call 40; refine (HC.out _).mono ?_; rintro e w' ⟨rfl, rfl⟩)
 exact ends (v := .tuple #[]) (by simp [results, Tryz.results42]) rfl (done_ok HR1.out ⟨⟨_, _, HM.out.setF HOF.out⟩, (Keeps.of_below HBel.out).trans (HM.out.putK 18 _)⟩)
set_option maxRecDepth 8000 in
set_option maxHeartbeats 4000000 in
theorem arith_41 {E : Env} {V : World} {m : Mach} {sv ov : Value} (h : MachAt E V m sv ov) (d : Nat) (hd : d < 8) (b : Int) (hb : OkU16 b) : Calls Tryz.prog 42 #[.pointer (some ⟨E.B, 0, none⟩), .int .i64 41, .int .i64 (d : Int), .int .u16 b] V (Done E V m sv ov (arithM m 41 d b)) := by
 have H := Lib.hid h
 have HD := Lib.hid hd
 have HB := Lib.hid hb
 have HA := Lib.hid (h.ok.R d)
 have HF := Lib.hid (h.ok.f)
 have hc2 := bit_c m.f h.ok.f.1 h.ok.f.2
 have d0 : (0 : Int) ≤ (d : Int) := by omega
 have d1 : (d : Int) < 8 := by omega
 clear h hd hb
 go_enter Tryz.func42, Tryz.ntmps42
 go_upto_region 0 with (fail)
 refine wp_region_flow (S := fun W => Below V.heap.size V W) (by kernel_rfl) (by kernel_rfl) (Below.drew (Below.refl _ _)) ?_
 iterate 16
  apply Flow.step
  ·intro V2 K hS hK
   obtain hM := H.out.next hS
   obtain cR := hM.cell (7 + d) _ (mcells_getR E m sv ov d HD.out)
   obtain c18 := hM.cell 18 _ rfl
   go_simp
   exact hK _ hS
  simp only [lQ]
 refine Flow.done ?_
 intro V2 hS
 have HM := Lib.hid (H.out.next hS)
 have HBel := Lib.hid hS
 clear hS
 have HC : Hid (∀ W, Below (resW V2).heap.size (resW V2) W → Calls Tryz.prog 92 #[.int .u16 (m.R d), .int .u16 b] W fun e w' => e = .returned (.int .u16 (bits .and .u16 (m.R d) b)) ∧ Below W.heap.size W w') := Lib.hid fun W hW => and_any (m.R d) b W
 have HRI : Hid (resI 41 (m.R d) b = some (bits .and .u16 (m.R d) b)) := Lib.hid (by simp [resI])
 have HOR := Lib.hid (resI_ok HA.out HB.out HRI.out)
 have HR1 : Hid (arithM m 41 d b = .ok { m with f := withI m.f (bits .and .u16 (m.R d) b) }) := Lib.hid (by unfold arithM; rw [if_neg (by decide), if_neg (by decide), if_neg (by decide), if_neg (by decide), HRI.out]; rfl)
 obtain ⟨r, hr⟩ : ∃ r, bits .and .u16 (m.R d) b = r := ⟨_, rfl⟩
 rw [hr] at HC HOR HR1
 clear hr HRI
 have hl : (Instr.lookup 104 (.map (some V2.heap.size)) (.int .i64 41) false).run Tryz.prog (resW V2) = .ok (.func (.func 92) #[] #[]) (resW V2) := resW_get V2 41 1 _ rfl
 have HB3 := Lib.hid (resW_below V2)
 clear hc2
 go_wp2_with fail
 refine (results_any _).mono ?_
 rintro e w3 ⟨rfl, rfl⟩
 generalize resW V2 = W3 at *
 go_wp2_with fail
 refine (HC.out _ (Below.refl _ _)).mono ?_
 rintro e w4 ⟨rfl, h4⟩
 have HM4 := Lib.hid (HM.out.next (below_next HB3.out h4))
 have HB4 := Lib.hid (below_next HBel.out (below_next HB3.out h4))
 clear h4 hl
 have c18 := HM4.out.cell 18 _ rfl
 have z18 := HM4.out.frz 18
 have HW : Hid (∀ W, Calls Tryz.prog 41 #[.int .u16 m.f, .int .u16 r] W fun e w' => e = .returned (.int .u16 (withI m.f r)) ∧ W = w') := Lib.hid fun W => with_any m.f r W HF.out.1 HF.out.2 HOR.out.1 HOR.out.2
 have HOW := Lib.hid (withI_ok m.f r)
 have hM2 := HM4.out.setF HOW.out
 have cR := hM2.cell (7 + d) _ (mcells_getR E _ sv ov d HD.out)
 have zR := hM2.frz (7 + d)
 clear hM2
 generalize withI m.f r = f at *
 go_wp2_with (go_at_call 41; refine (HW.out _).mono ?_; rintro e w' ⟨rfl, rfl⟩)
 exact ends (v := .tuple #[]) (by simp [results, Tryz.results42]) rfl (done_ok HR1.out ⟨⟨_, _, HM4.out.setF HOW.out⟩, (Keeps.of_below HB4.out).trans (HM4.out.putK 18 _)⟩)
set_option maxRecDepth 8000 in
set_option maxHeartbeats 4000000 in
theorem arith_43a {E : Env} {V : World} {m : Mach} {sv ov : Value} (h : MachAt E V m sv ov) (d : Nat) (hd : d < 8) (b : Int) (hb : OkU16 b) (h0 : b = 0) : Calls Tryz.prog 42 #[.pointer (some ⟨E.B, 0, none⟩), .int .i64 43, .int .i64 (d : Int), .int .u16 b] V (Done E V m sv ov (arithM m 43 d b)) := by
 have H0 := Lib.hid h0
 have H := Lib.hid h
 have HD := Lib.hid hd
 have HB := Lib.hid hb
 have HA := Lib.hid (h.ok.R d)
 have HF := Lib.hid (h.ok.f)
 have hc2 := bit_c m.f h.ok.f.1 h.ok.f.2
 have d0 : (0 : Int) ≤ (d : Int) := by omega
 have d1 : (d : Int) < 8 := by omega
 clear h hd hb h0
 go_enter Tryz.func42, Tryz.ntmps42
 go_upto_region 0 with (fail)
 refine wp_region_flow (S := fun W => Below V.heap.size V W) (by kernel_rfl) (by kernel_rfl) (Below.drew (Below.refl _ _)) ?_
 iterate 16
  apply Flow.step
  ·intro V2 K hS hK
   obtain hM := H.out.next hS
   obtain cR := hM.cell (7 + d) _ (mcells_getR E m sv ov d HD.out)
   obtain c18 := hM.cell 18 _ rfl
   go_simp
   exact hK _ hS
  simp only [lQ]
 refine Flow.done ?_
 intro V2 hS
 have HM := Lib.hid (H.out.next hS)
 have HBel := Lib.hid hS
 clear hS
 have HC : Hid (∀ W, Below (resW V2).heap.size (resW V2) W → Calls Tryz.prog 99 #[.int .u16 (m.R d), .int .u16 b] W fun e w' => e = trapE 4 0 ∧ Below W.heap.size W w') := Lib.hid fun W hW => div_bad (m.R d) b W H0.out
 have HR1 : Hid (arithM m 43 d b = .error (4, 0)) := Lib.hid (by simp [arithM, resI, H0.out])
 have hl : (Instr.lookup 104 (.map (some V2.heap.size)) (.int .i64 43) false).run Tryz.prog (resW V2) = .ok (.func (.func 99) #[] #[]) (resW V2) := resW_get V2 43 5 _ rfl
 have HB3 := Lib.hid (resW_below V2)
 clear hc2
 go_wp2_with fail
 refine (results_any _).mono ?_
 rintro e w3 ⟨rfl, rfl⟩
 generalize resW V2 = W3 at *
 go_wp2_with fail
 refine (HC.out _ (Below.refl _ _)).mono ?_
 rintro e w4 ⟨rfl, h4⟩
 have HM4 := Lib.hid (HM.out.next (below_next HB3.out h4))
 have HB4 := Lib.hid (below_next HBel.out (below_next HB3.out h4))
 clear h4 hl
 go_wp2_with fail
 exact panics rfl (done_err HR1.out (trapped_below H.out HB4.out))
set_option maxRecDepth 8000 in
set_option maxHeartbeats 4000000 in
theorem arith_tab {E : Env} {V : World} {m : Mach} {sv ov : Value} (h : MachAt E V m sv ov) (d : Nat) (hd : d < 8) (b : Int) (hb : OkU16 b) (op r : Int) (F : Nat) (hop : (op = 37 ∧ F = 92) ∨ (op = 38 ∧ F = 96) ∨ (op = 39 ∧ F = 97) ∨ (op = 42 ∧ F = 98) ∨ (op = 43 ∧ F = 99)) (hl : ∀ V2 : World, (Instr.lookup 104 (.map (some V2.heap.size)) (.int .i64 op) false).run Tryz.prog (resW V2) = .ok (.func (.func F) #[] #[]) (resW V2)) (hC : ∀ W, Calls Tryz.prog F #[.int .u16 (m.R d), .int .u16 b] W fun e w' => e = .returned (.int .u16 r) ∧ Below W.heap.size W w') (hRI : resI op (m.R d) b = some r) : Calls Tryz.prog 42 #[.pointer (some ⟨E.B, 0, none⟩), .int .i64 op, .int .i64 (d : Int), .int .u16 b] V (Done E V m sv ov (arithM m op d b)) := by
 have H := Lib.hid h
 have HD := Lib.hid hd
 have HB := Lib.hid hb
 have HA := Lib.hid (h.ok.R d)
 have HF := Lib.hid (h.ok.f)
 have hc2 := bit_c m.f h.ok.f.1 h.ok.f.2
 have d0 : (0 : Int) ≤ (d : Int) := by omega
 have d1 : (d : Int) < 8 := by omega
 have HC := Lib.hid hC
 have HLK := Lib.hid hl
 have HOR := Lib.hid (resI_ok HA.out HB.out hRI)
 have HR1 : Hid (arithM m op d b = .ok (setRF m d (withI m.f r) r)) := Lib.hid (by unfold arithM; rw [if_neg (by omega), if_neg (by omega), if_neg (by omega), if_neg (by omega), hRI]; exact if_neg (by omega))
 clear h hd hb hC hl hRI
 rcases hop with ⟨rfl, rfl⟩ | ⟨rfl, rfl⟩ | ⟨rfl, rfl⟩ | ⟨rfl, rfl⟩ | ⟨rfl, rfl⟩
 all_goals
  go_enter Tryz.func42, Tryz.ntmps42
  go_upto_region 0 with (fail)
  refine wp_region_flow (S := fun W => Below V.heap.size V W) (by kernel_rfl) (by kernel_rfl) (Below.drew (Below.refl _ _)) ?_
  iterate 16
   apply Flow.step
   ·intro V2 K hS hK
    obtain hM := H.out.next hS
    obtain cR := hM.cell (7 + d) _ (mcells_getR E m sv ov d HD.out)
    obtain c18 := hM.cell 18 _ rfl
    go_simp
    exact hK _ hS
   simp only [lQ]
  refine Flow.done ?_
  intro V2 hS
  have HM := Lib.hid (H.out.next hS)
  have HBel := Lib.hid hS
  clear hS
  have hl := HLK.out V2
  have HB3 := Lib.hid (resW_below V2)
  clear hc2
  go_wp2_with fail
  refine (results_any _).mono ?_
  rintro e w3 ⟨rfl, rfl⟩
  generalize resW V2 = W3 at *
  go_wp2_with fail
  refine (HC.out _).mono ?_
  rintro e w4 ⟨rfl, h4⟩
  have HM4 := Lib.hid (HM.out.next (below_next HB3.out h4))
  have HB4 := Lib.hid (below_next HBel.out (below_next HB3.out h4))
  clear h4 hl
  have c18 := HM4.out.cell 18 _ rfl
  have z18 := HM4.out.frz 18
  have HW : Hid (∀ W, Calls Tryz.prog 41 #[.int .u16 m.f, .int .u16 r] W fun e w' => e = .returned (.int .u16 (withI m.f r)) ∧ W = w') := Lib.hid fun W => with_any m.f r W HF.out.1 HF.out.2 HOR.out.1 HOR.out.2
  have HOW := Lib.hid (withI_ok m.f r)
  have hM2 := HM4.out.setF HOW.out
  have cR := hM2.cell (7 + d) _ (mcells_getR E _ sv ov d HD.out)
  have zR := hM2.frz (7 + d)
  clear hM2
  generalize withI m.f r = f at *
  go_wp2_with (go_at_call 41; refine (HW.out _).mono ?_; rintro e w' ⟨rfl, rfl⟩)
  exact ends (v := .tuple #[]) (by simp [results, Tryz.results42]) rfl (done_ok HR1.out ⟨⟨_, _, HM4.out.setRF d HD.out HOW.out HOR.out⟩, (Keeps.of_below HB4.out).trans (HM4.out.setRFK d HOW.out _)⟩)
set_option maxRecDepth 8000 in
set_option maxHeartbeats 4000000 in
theorem arith_sum {E : Env} {V : World} {m : Mach} {sv ov : Value} (h : MachAt E V m sv ov) (d : Nat) (hd : d < 8) (b : Int) (hb : OkU16 b) (op r f : Int) (F : Nat) (c : Bool) (hop : (op = 33 ∧ F = 67 ∧ c = false) ∨ (op = 34 ∧ F = 67 ∧ c = fc m.f) ∨ (op = 35 ∧ F = 40 ∧ c = true) ∨ (op = 36 ∧ F = 40 ∧ c = fc m.f)) (hC : ∀ W, Calls Tryz.prog F #[.int .u16 (m.R d), .int .u16 b, .bool c] W fun e w' => e = .returned (.tuple #[.int .u16 r, .int .u16 f]) ∧ W = w') (hR1 : arithM m op d b = .ok (setRF m d f r)) (hor : OkU16 r) (hof : OkU16 f) : Calls Tryz.prog 42 #[.pointer (some ⟨E.B, 0, none⟩), .int .i64 op, .int .i64 (d : Int), .int .u16 b] V (Done E V m sv ov (arithM m op d b)) := by
 have H := Lib.hid h
 have HD := Lib.hid hd
 have HB := Lib.hid hb
 have HA := Lib.hid (h.ok.R d)
 have HF := Lib.hid (h.ok.f)
 have hc2 := bit_c m.f h.ok.f.1 h.ok.f.2
 have d0 : (0 : Int) ≤ (d : Int) := by omega
 have d1 : (d : Int) < 8 := by omega
 have HC := Lib.hid hC
 have HR1 := Lib.hid hR1
 have HOR := Lib.hid hor
 have HOF := Lib.hid hof
 clear h hd hb hC hR1 hor hof
 rcases hop with ⟨rfl, rfl, rfl⟩ | ⟨rfl, rfl, rfl⟩ | ⟨rfl, rfl, rfl⟩ | ⟨rfl, rfl, rfl⟩
 all_goals
  go_enter Tryz.func42, Tryz.ntmps42
  go_upto_region 0 with (fail)
  refine wp_region_flow (S := fun W => Below V.heap.size V W) (by kernel_rfl) (by kernel_rfl) (Below.drew (Below.refl _ _)) ?_
  iterate 16
   apply Flow.step
   ·intro V2 K hS hK
    obtain hM := H.out.next hS
    obtain cR := hM.cell (7 + d) _ (mcells_getR E m sv ov d HD.out)
    obtain c18 := hM.cell 18 _ rfl
    go_simp
    exact hK _ hS
   simp only [lQ]
  refine Flow.done ?_
  intro V2 hS
  have HM := Lib.hid (H.out.next hS)
  have HBel := Lib.hid hS
  clear hS
  clear hc2
  have c18 := HM.out.cell 18 _ rfl
  have z18 := HM.out.frz 18
  have hM2 := HM.out.setF HOF.out
  have cR := hM2.cell (7 + d) _ (mcells_getR E _ sv ov d HD.out)
  have zR := hM2.frz (7 + d)
  clear hM2
  go_wp2_with ((first | go_at_call 67 | go_at_call 40); refine (HC.out _).mono ?_; rintro e w' ⟨rfl, rfl⟩)
  exact ends (v := .tuple #[]) (by simp [results, Tryz.results42]) rfl (done_ok HR1.out ⟨⟨_, _, HM.out.setRF d HD.out HOF.out HOR.out⟩, (Keeps.of_below HBel.out).trans (HM.out.setRFK d HOF.out _)⟩)
set_option maxRecDepth 8000 in
set_option maxHeartbeats 4000000 in
theorem arith_sh {E : Env} {V : World} {m : Mach} {sv ov : Value} (h : MachAt E V m sv ov) (d : Nat) (hd : d < 8) (b : Int) (hb : OkU16 b) (op r : Int) (p : World → Nat) (hop : op = 44 ∧ p = (fun W => W.heap.size + 1) ∨ op = 45 ∧ p = (fun W => W.heap.size + 1 + 1) ∨ op = 46 ∧ p = (fun W => W.heap.size + 1 + 1 + 1)) (hl : ∀ V2 : World, (Instr.lookup 104 (.map (some V2.heap.size)) (.int .i64 op) false).run Tryz.prog (resW V2) = .ok (.func (.func 94) #[] #[.pointer (some ⟨p V2, 0, none⟩)]) (resW V2)) (hC : ∀ V2 W : World, Below (resW V2).heap.size (resW V2) W → Calls Tryz.prog 94 #[.int .u16 (m.R d), .int .u16 b, .pointer (some ⟨p V2, 0, none⟩)] W fun e w' => e = .returned (.int .u16 r) ∧ Below W.heap.size W w') (hRI : resI op (m.R d) b = some r) : Calls Tryz.prog 42 #[.pointer (some ⟨E.B, 0, none⟩), .int .i64 op, .int .i64 (d : Int), .int .u16 b] V (Done E V m sv ov (arithM m op d b)) := by
 have H := Lib.hid h
 have HD := Lib.hid hd
 have HB := Lib.hid hb
 have HA := Lib.hid (h.ok.R d)
 have HF := Lib.hid (h.ok.f)
 have hc2 := bit_c m.f h.ok.f.1 h.ok.f.2
 have d0 : (0 : Int) ≤ (d : Int) := by omega
 have d1 : (d : Int) < 8 := by omega
 have HC := Lib.hid hC
 have HLK := Lib.hid hl
 have HOR := Lib.hid (resI_ok HA.out HB.out hRI)
 have HR1 : Hid (arithM m op d b = .ok (setRF m d (withI m.f r) r)) := Lib.hid (by unfold arithM; rw [if_neg (by omega), if_neg (by omega), if_neg (by omega), if_neg (by omega), hRI]; exact if_neg (by omega))
 clear h hd hb hC hl hRI
 rcases hop with ⟨rfl, rfl⟩ | ⟨rfl, rfl⟩ | ⟨rfl, rfl⟩
 all_goals
  dsimp only at HLK HC
  go_enter Tryz.func42, Tryz.ntmps42
  go_upto_region 0 with (fail)
  refine wp_region_flow (S := fun W => Below V.heap.size V W) (by kernel_rfl) (by kernel_rfl) (Below.drew (Below.refl _ _)) ?_
  iterate 16
   apply Flow.step
   ·intro V2 K hS hK
    obtain hM := H.out.next hS
    obtain cR := hM.cell (7 + d) _ (mcells_getR E m sv ov d HD.out)
    obtain c18 := hM.cell 18 _ rfl
    go_simp
    exact hK _ hS
   simp only [lQ]
  refine Flow.done ?_
  intro V2 hS
  have HM := Lib.hid (H.out.next hS)
  have HBel := Lib.hid hS
  clear hS
  have hl := HLK.out V2
  have HCW := Lib.hid (HC.out V2 (resW V2) (Below.refl _ _))
  have HB3 := Lib.hid (resW_below V2)
  clear hc2
  go_wp2_with fail
  refine (results_any _).mono ?_
  rintro e w3 ⟨rfl, rfl⟩
  generalize resW V2 = W3 at *
  go_wp2_with fail
  refine HCW.out.mono ?_
  rintro e w4 ⟨rfl, h4⟩
  have HM4 := Lib.hid (HM.out.next (below_next HB3.out h4))
  have HB4 := Lib.hid (below_next HBel.out (below_next HB3.out h4))
  clear h4 hl
  have c18 := HM4.out.cell 18 _ rfl
  have z18 := HM4.out.frz 18
  have HW : Hid (∀ W, Calls Tryz.prog 41 #[.int .u16 m.f, .int .u16 r] W fun e w' => e = .returned (.int .u16 (withI m.f r)) ∧ W = w') := Lib.hid fun W => with_any m.f r W HF.out.1 HF.out.2 HOR.out.1 HOR.out.2
  have HOW := Lib.hid (withI_ok m.f r)
  have hM2 := HM4.out.setF HOW.out
  have cR := hM2.cell (7 + d) _ (mcells_getR E _ sv ov d HD.out)
  have zR := hM2.frz (7 + d)
  clear hM2
  generalize withI m.f r = f at *
  go_wp2_with (go_at_call 41; refine (HW.out _).mono ?_; rintro e w' ⟨rfl, rfl⟩)
  exact ends (v := .tuple #[]) (by simp [results, Tryz.results42]) rfl (done_ok HR1.out ⟨⟨_, _, HM4.out.setRF d HD.out HOW.out HOR.out⟩, (Keeps.of_below HB4.out).trans (HM4.out.setRFK d HOW.out _)⟩)
theorem arith_any {E : Env} {V : World} {m : Mach} {sv ov : Value} (h : MachAt E V m sv ov) (op : Int) (h0 : 32 ≤ op) (h1 : op ≤ 46) (d : Nat) (hd : d < 8) (b : Int) (hb : OkU16 b) : Calls Tryz.prog 42 #[.pointer (some ⟨E.B, 0, none⟩), .int .i64 op, .int .i64 (d : Int), .int .u16 b] V (Done E V m sv ov (arithM m op d b)) := by
 rcases (show op = 32 ∨ op = 33 ∨ op = 34 ∨ op = 35 ∨ op = 36 ∨ op = 37 ∨ op = 38 ∨ op = 39 ∨ op = 40 ∨ op = 41 ∨ op = 42 ∨ op = 43 ∨ op = 44 ∨ op = 45 ∨ op = 46 by omega) with rfl | rfl | rfl | rfl | rfl | rfl | rfl | rfl | rfl | rfl | rfl | rfl | rfl | rfl | rfl
 ·exact arith_32 h d hd b hb
 ·exact arith_sum h d hd b hb 33 _ _ 67 false (.inl ⟨rfl, rfl, rfl⟩) (fun W => add_any (m.R d) b false W (h.ok.R d).1 (h.ok.R d).2 hb.1 hb.2) (by simp [arithM]) (addR_ok _ _ _) (addF_ok _ _ _)
 ·exact arith_sum h d hd b hb 34 _ _ 67 _ (.inr (.inl ⟨rfl, rfl, rfl⟩)) (fun W => add_any (m.R d) b (fc m.f) W (h.ok.R d).1 (h.ok.R d).2 hb.1 hb.2) (by simp [arithM]) (addR_ok _ _ _) (addF_ok _ _ _)
 ·exact arith_sum h d hd b hb 35 _ _ 40 true (.inr (.inr (.inl ⟨rfl, rfl, rfl⟩))) (fun W => sub_any (m.R d) b true W (h.ok.R d).1 (h.ok.R d).2 hb.1 hb.2) (by simp [arithM]) (addR_ok _ _ _) (addF_ok _ _ _)
 ·exact arith_sum h d hd b hb 36 _ _ 40 _ (.inr (.inr (.inr ⟨rfl, rfl, rfl⟩))) (fun W => sub_any (m.R d) b (fc m.f) W (h.ok.R d).1 (h.ok.R d).2 hb.1 hb.2) (by simp [arithM]) (addR_ok _ _ _) (addF_ok _ _ _)
 ·exact arith_tab h d hd b hb 37 _ 92 (.inl ⟨rfl, rfl⟩) (fun V2 => resW_get V2 37 0 _ rfl) (fun W => and_any (m.R d) b W) (by simp [resI])
 ·exact arith_tab h d hd b hb 38 _ 96 (.inr (.inl ⟨rfl, rfl⟩)) (fun V2 => resW_get V2 38 2 _ rfl) (fun W => or_any (m.R d) b W) (by simp [resI])
 ·exact arith_tab h d hd b hb 39 _ 97 (.inr (.inr (.inl ⟨rfl, rfl⟩))) (fun V2 => resW_get V2 39 3 _ rfl) (fun W => xor_any (m.R d) b W) (by simp [resI])
 ·exact arith_40 h d hd b hb
 ·exact arith_41 h d hd b hb
 ·exact arith_tab h d hd b hb 42 _ 98 (.inr (.inr (.inr (.inl ⟨rfl, rfl⟩)))) (fun V2 => resW_get V2 42 4 _ rfl) (fun W => mul_any (m.R d) b W) (by simp [resI])
 ·by_cases hz : b = 0
  ·exact arith_43a h d hd b hb hz
  ·exact arith_tab h d hd b hb 43 _ 99 (.inr (.inr (.inr (.inr ⟨rfl, rfl⟩)))) (fun V2 => resW_get V2 43 5 _ rfl) (fun W => div_ok (m.R d) b W (h.ok.R d) hb hz) (by simp [resI, hz])
 ·exact arith_sh h d hd b hb 44 _ _ (.inl ⟨rfl, rfl⟩) (fun V2 => resW_get V2 44 6 _ rfl) (fun V2 W hW => sh_any 0 (m.R d) b _ W (by unfold OkI64; omega) (h.ok.R d) hb ((hW.cell (p := ⟨_, 0, none⟩) (resW_lt V2 1 (by omega))).trans (resW_cell0 V2))) (by simp [resI])
 ·exact arith_sh h d hd b hb 45 _ _ (.inr (.inl ⟨rfl, rfl⟩)) (fun V2 => resW_get V2 45 7 _ rfl) (fun V2 W hW => sh_any 1 (m.R d) b _ W (by unfold OkI64; omega) (h.ok.R d) hb ((hW.cell (p := ⟨_, 0, none⟩) (resW_lt V2 2 (by omega))).trans (resW_cell1 V2))) (by simp [resI])
 ·exact arith_sh h d hd b hb 46 _ _ (.inr (.inr ⟨rfl, rfl⟩)) (fun V2 => resW_get V2 46 8 _ rfl) (fun V2 W hW => sh_any 2 (m.R d) b _ W (by unfold OkI64; omega) (h.ok.R d) hb ((hW.cell (p := ⟨_, 0, none⟩) (resW_lt V2 3 (by omega))).trans (resW_cell2 V2))) (by simp [resI])
end Go.Proofs.YtieaicdihingkaaGreat
