/- The reference's Format. -/
import Derived.Test.YtieaicdihingkaaGreatC1
import Derived.Test.YtieaicdihingkaaGreatK24
namespace Go.Proofs.YtieaicdihingkaaGreat
set_option linter.unusedVariables false
set_option linter.unusedSimpArgs false
open Go.RowKit
def rfmtL : List Int := [1, 1, 1, 1, 1, 1, 0, 0, 0, 0, 0, 0, 0, 0, 0, 0, 2, 2, 2, 2, 3, 3, 0, 0, 0, 0, 0, 0, 0, 0, 0, 0, 4, 4, 4, 4, 4, 4, 4, 4, 4, 4, 4, 4, 4, 4, 4, 0, 5, 5, 5, 5, 5, 5, 5, 5, 5, 5, 5, 5, 5, 5, 5, 0, 6, 6, 6, 6, 6, 6, 6, 6, 6, 6, 6, 6, 6, 6, 6, 0, 7, 7, 7, 7, 9, 9, 9, 9, 8, 8, 8, 8, 0, 0, 0, 0, 10, 10, 10, 10, 10, 10, 10, 10, 10, 10, 10, 10, 10, 10, 0, 0, 11, 11, 11, 11, 11, 11, 11, 11, 11, 11, 11, 11, 11, 11, 0, 0, 10, 11, 11, 12, 12, 13, 14, 0, 0, 0, 0, 0, 0, 0, 0, 0, 15, 15, 16, 16, 0, 0, 17, 0, 0, 0, 0, 0, 0, 0, 0, 0, 15, 15, 18, 18]
/-- The reference's format of an operation. -/
def rfmt (op : Int) : Int := if 0 ≤ op ∧ op < 164 then (rfmtL[op.toNat]?).getD 0 else 0
set_option maxRecDepth 20000 in
theorem rfmt_bd (op : Int) : 0 ≤ rfmt op ∧ rfmt op ≤ 18 := by
 unfold rfmt
 split
 ·rename_i h
  have h1 : ∀ x ∈ rfmtL, 0 ≤ x ∧ x ≤ 18 := by decide
  cases hx : rfmtL[op.toNat]? with
  | none => decide
  | some x => exact h1 x (List.mem_of_getElem? hx)
 ·decide
theorem all_succ {P : Nat → Prop} {n : Nat} (h : ∀ k, k < n → P k) (hn : P n) : ∀ k, k < n + 1 → P k := fun k hk => by
 rcases Nat.lt_or_ge k n with h1 | h1
 ·exact h k h1
 ·obtain rfl : k = n := by omega
  exact hn
def FmtIs (w : World) (k : Nat) : Prop := Calls Tryz.prog 78 #[.int .i64 (k : Int)] w (fun e w' => e = .returned (.int .i64 (rfmt k)) ∧ Below w.heap.size w w')
set_option maxRecDepth 20000 in
set_option maxHeartbeats 40000000 in
theorem format_lit (w : World) : ∀ k, k < 164 → FmtIs w k := by
 iterate 164 refine all_succ ?_ ?_
 ·exact fun k hk => absurd hk (Nat.not_lt_zero k)
 all_goals
  unfold FmtIs
  go_enter Tryz.func78, Tryz.ntmps78
  go_wp2_with fail
  go_ret
  exact ⟨by rfl, by first | exact Below.refl _ _ | exact below1 _ _⟩
set_option maxRecDepth 20000 in
set_option maxHeartbeats 4000000 in
theorem rformat_any (op : Int) (w : World) : Calls Tryz.prog 78 #[.int .i64 op] w (fun e w' => e = .returned (.int .i64 (rfmt op)) ∧ Below w.heap.size w w') := by
 by_cases h0 : 0 ≤ op
 ·by_cases h1 : op < 164
  ·obtain ⟨k, rfl⟩ : ∃ k : Nat, op = (k : Int) := ⟨op.toNat, by omega⟩
   exact format_lit w k (by omega)
  ·have HR : Hid (rfmt op = 0) := Lib.hid (if_neg (by omega))
   have b0 : decide (op < 0) = false := decide_eq_false (by omega)
   have b1 : decide (163 < op) = true := decide_eq_true (by omega)
   rw [HR.out]
   clear h0 h1 HR
   go_enter Tryz.func78, Tryz.ntmps78
   go_wp2_with fail
   go_ret
   exact ⟨rfl, Below.refl _ _⟩
 ·have HR : Hid (rfmt op = 0) := Lib.hid (if_neg (by omega))
  have b0 : decide (op < 0) = true := decide_eq_true (by omega)
  rw [HR.out]
  clear h0 HR
  go_enter Tryz.func78, Tryz.ntmps78
  go_wp2_with fail
  go_ret
  exact ⟨rfl, Below.refl _ _⟩
def rsizeL : List Int := [0, 1, 2, 2, 2, 3, 4, 3, 4, 4, 2, 3, 4, 7, 4, 3, 5, 6, 3]
def rsize (c : Int) : Int := (rsizeL[(rfmt c).toNat]?).getD 0
def rsizeC : Array Value := (rsizeL.map (Value.int .i64)).toArray
theorem rinfo121 : (Tryz.prog.info? 108).map (·.size) = some 19 := by kernel_rfl
theorem v_bel {w W : World} {o : Obj} (e : w.alloc o = W) : Below w.heap.size w W := e ▸ below1 w o
theorem v_blk {w W : World} {o : Obj} (e : w.alloc o = W) : W.heap[w.heap.size]? = some o := e ▸ alloc_at w _
theorem v_next {w W : World} {B : Nat} {o : Obj} (h : Below w.heap.size w W) (hb : w.heap[B]? = some o) : W.heap[B]? = some o := (h.block _ (Array.getElem?_eq_some_iff.1 hb).1).trans hb
set_option maxRecDepth 20000 in
set_option maxHeartbeats 4000000 in
theorem rsize_any (c : Int) (w : World) (h0 : 0 ≤ c) (h1 : c < 256) : Calls Tryz.prog 47 #[.int .u8 c] w (fun e w' => e = .returned (.int .i64 (rsize c)) ∧ Below w.heap.size w w') := by
 have HF := Lib.hid fun W => rformat_any c W
 have o1 : IntKind.i64.wrap c = c := IntWalk.i64_in _ (by omega)
 obtain ⟨j, hj, hj19⟩ : ∃ j : Nat, rfmt c = (j : Int) ∧ j < 19 := ⟨(rfmt c).toNat, by have := rfmt_bd c; omega⟩
 have hz : rsizeC[j]? = some (.int .i64 (rsize c)) := by
  have e : (rfmt c).toNat = j := by omega
  unfold rsize rsizeC
  rw [e, List.getElem?_toArray, List.getElem?_map]
  have : j < rsizeL.length := hj19
  rw [List.getElem?_eq_getElem this]
  rfl
 obtain ⟨z, hzz⟩ : ∃ z, rsize c = z := ⟨_, rfl⟩
 rw [hj] at HF
 rw [hzz] at hz ⊢
 have HZ := Lib.hid hz
 clear h0 h1 hj hz hzz
 go_enter Tryz.func47, Tryz.ntmps47
 go_wp2_with (refine wpList_store_row 108 _ _ rfl rfl w.heap.size rfl rsizeC rfl (alloc_at w _) rinfo121 rfl (by simp [rsizeC, rsizeL, Value.oneCell']) ?_; refine Hid.out ?_)
 generalize e1 : World.setRow _ _ _ = W1
 have HA1 := Lib.hid (show W1.heap[w.heap.size]? = some (.cells rsizeC 108 (0, 0)) from e1 ▸ setRow_heap _ _ _ _ _ _ (alloc_at w _))
 have HB1 := Lib.hid (show Below w.heap.size w W1 from e1 ▸ setRow_below (below1 w _) (Nat.le_refl _))
 refine Lib.hid ?_
 clear e1
 go_wp2_with fail
 refine (HF.out _).mono ?_
 rintro e w2 ⟨rfl, h2⟩
 have HB2 := Lib.hid (below_next HB1.out h2)
 have c1 : w2.cell? ⟨w.heap.size, j, none⟩ = some (.int .i64 z) := (Lib.cell_of_heap (v_next h2 HA1.out) j).trans HZ.out
 have i0 : (0 : Int) ≤ (j : Int) := by omega
 have i1 : (j : Int) < 19 := by omega
 clear h2
 go_wp2_with fail
 exact bodyPost_ret (v := .int .i64 z) (by simp [results, Tryz.results47, go_sem]) rfl ⟨rfl, HB2.out⟩
theorem rreg_any (n : Int) (w : World) : Calls Tryz.prog 103 #[.int .i64 n] w fun e w' => e = .returned (.bool (decide (0 ≤ n) && decide (n < 8))) ∧ w = w' := by
 obtain ⟨a, ha⟩ : ∃ a, decide (0 ≤ n) = a := ⟨_, rfl⟩
 obtain ⟨b, hb⟩ : ∃ b, decide (n < 8) = b := ⟨_, rfl⟩
 rw [ha, hb]
 cases a
 all_goals
  go_enter Tryz.func103, Tryz.ntmps103
  go_wp2_with fail
  go_ret
  exact ⟨rfl, rfl⟩
theorem rsigned_any (n : Int) (w : World) : Calls Tryz.prog 104 #[.int .u16 n] w fun e w' => e = .returned (.bool (decide (n < 128) || decide (65408 ≤ n))) ∧ w = w' := by
 obtain ⟨a, ha⟩ : ∃ a, decide (n < 128) = a := ⟨_, rfl⟩
 obtain ⟨b, hb⟩ : ∃ b, decide (65408 ≤ n) = b := ⟨_, rfl⟩
 rw [ha, hb]
 cases a
 all_goals
  go_enter Tryz.func104, Tryz.ntmps104
  go_wp2_with fail
  go_ret
  exact ⟨rfl, rfl⟩
def rvF (f : Int) (d s sg nD nS nA nB bk z l t1 t2 : Bool) : Bool :=
 if f = 1 then nD && nS && z && nA && nB
 else if f = 2 then d && nS && z && nA && nB
 else if f = 3 then nD && nS && l && nA && nB
 else if f = 4 then d && s && z && nA && nB
 else if f = 5 then d && nS && sg && nA && nB
 else if f = 6 then d && nS && nA && nB
 else if f = 7 then d && s && sg && nA && nB
 else if f = 8 then d && s && nA && nB
 else if f = 9 then d && nS && nA && nB
 else if f = 10 then nD && nS && sg && nA && nB
 else if f = 11 then nD && nS && nA && nB
 else if f = 12 then nD && nS && nA && bk
 else if f = 13 then d && nS && t1 && t2
 else if f = 14 then d && nS && nA && nB
 else if f = 15 then d && nS && l && nA && nB
 else if f = 16 then d && s && nA && bk
 else if f = 17 then nD && s && nB
 else if f = 18 then d && nS && sg && nA && nB
 else false
def rvalidI (i : InsI) : Bool := !(rfmt i.op == 0) && (i.size == rsize (i.op % 256) && rvF (rfmt i.op) (decide (0 ≤ i.d) && decide (i.d < 8)) (decide (0 ≤ i.s) && decide (i.s < 8)) (decide (i.imm < 128) || decide (65408 ≤ i.imm)) (i.d == 0) (i.s == 0) (i.aux == 0) (i.bank == 0) (decide (0 ≤ i.bank) && decide (i.bank < 64)) (i.imm == 0) (decide (i.imm < 256)) (decide (1 ≤ i.bank)) (decide (i.bank < 256)))
set_option maxRecDepth 20000 in
set_option maxHeartbeats 40000000 in
theorem rvalid_any (op di si imm aux bank size : Int) (w : World) : Calls Tryz.prog 80 #[.agg #[.int .i64 op, .int .i64 di, .int .i64 si, .int .u16 imm, .int .u16 aux, .int .i64 bank, .int .i64 size]] w (fun e w' => e = .returned (.bool (rvalidI ⟨op, di, si, imm, aux, bank, size⟩)) ∧ Below w.heap.size w w') := by
 have HF := Lib.hid fun W => rformat_any op W
 have HZ := Lib.hid fun W => rsize_any (op % 256) W (by omega) (by omega)
 have qo : IntKind.u8.wrap op = op % 256 := by rw [IntKind.wrap_u8]
 obtain ⟨R, hR⟩ : ∃ R, rvalidI ⟨op, di, si, imm, aux, bank, size⟩ = R := ⟨_, rfl⟩
 rw [hR]
 unfold rvalidI at hR
 dsimp only at hR
 have hbd := rfmt_bd op
 obtain ⟨f, hf⟩ : ∃ f, rfmt op = f := ⟨_, rfl⟩
 obtain ⟨rz, hrz⟩ : ∃ z, rsize (op % 256) = z := ⟨_, rfl⟩
 rw [hf] at HF hR hbd
 rw [hrz] at HZ hR
 obtain ⟨u, hu⟩ : ∃ u, (f == 0) = u := ⟨_, rfl⟩
 obtain ⟨v, hv⟩ : ∃ v, (size == rz) = v := ⟨_, rfl⟩
 have hv' : (size != rz) = !v := by rw [← hv]; rfl
 obtain ⟨o2, ho2⟩ : ∃ o2, op % 256 = o2 := ⟨_, rfl⟩
 rw [ho2] at HZ qo
 obtain ⟨d, hd⟩ : ∃ x : Bool, (decide (0 ≤ di) && decide (di < 8)) = x := ⟨_, rfl⟩
 obtain ⟨s, hs⟩ : ∃ x : Bool, (decide (0 ≤ si) && decide (si < 8)) = x := ⟨_, rfl⟩
 obtain ⟨sg, hsg⟩ : ∃ x : Bool, (decide (imm < 128) || decide (65408 ≤ imm)) = x := ⟨_, rfl⟩
 obtain ⟨nD, hnD⟩ : ∃ x : Bool, (di == 0) = x := ⟨_, rfl⟩
 obtain ⟨nS, hnS⟩ : ∃ x : Bool, (si == 0) = x := ⟨_, rfl⟩
 obtain ⟨nA, hnA⟩ : ∃ x : Bool, (aux == 0) = x := ⟨_, rfl⟩
 obtain ⟨nB, hnB⟩ : ∃ x : Bool, (bank == 0) = x := ⟨_, rfl⟩
 obtain ⟨b0, hb0⟩ : ∃ x : Bool, decide (0 ≤ bank) = x := ⟨_, rfl⟩
 obtain ⟨b1, hb1⟩ : ∃ x : Bool, decide (bank < 64) = x := ⟨_, rfl⟩
 obtain ⟨z, hz⟩ : ∃ x : Bool, (imm == 0) = x := ⟨_, rfl⟩
 obtain ⟨l, hl⟩ : ∃ x : Bool, decide (imm < 256) = x := ⟨_, rfl⟩
 obtain ⟨t1, ht1⟩ : ∃ x : Bool, decide (1 ≤ bank) = x := ⟨_, rfl⟩
 obtain ⟨t2, ht2⟩ : ∃ x : Bool, decide (bank < 256) = x := ⟨_, rfl⟩
 rw [hu, hv, hd, hs, hsg, hnD, hnS, hnA, hnB, hb0, hb1, hz, hl, ht1, ht2] at hR
 have HD : Hid (∀ W, Calls Tryz.prog 103 #[.int .i64 di] W fun e w' => e = .returned (.bool d) ∧ W = w') := Lib.hid fun W => hd ▸ rreg_any di W
 have HS : Hid (∀ W, Calls Tryz.prog 103 #[.int .i64 si] W fun e w' => e = .returned (.bool s) ∧ W = w') := Lib.hid fun W => hs ▸ rreg_any si W
 have HG : Hid (∀ W, Calls Tryz.prog 104 #[.int .u16 imm] W fun e w' => e = .returned (.bool sg) ∧ W = w') := Lib.hid fun W => hsg ▸ rsigned_any imm W
 obtain ⟨bk, hbk⟩ : ∃ bk, (b0 && b1) = bk := ⟨_, rfl⟩
 rw [hbk] at hR
 have HR := Lib.hid hR
 have HBD := Lib.hid hbd
 have HU := Lib.hid hu
 have HBK := Lib.hid hbk
 clear hR hf hrz hbd ho2 hd hs hsg hbk hu
 have hu := HU.out
 cases u
 rotate_left
 ·obtain rfl : false = R := HR.out
  go_enter Tryz.func80, Tryz.ntmps80
  go_upto_region 1 with (fail)
  generalize e0 : w.alloc _ = W0
  have HB0 := Lib.hid (v_bel e0)
  have i0 : W0.cell? ⟨w.heap.size, 0, none⟩ = some (.int .i64 op) := Lib.cell_of_heap (v_blk e0) 0
  clear e0
  go_wp2_with fail
  refine (HF.out _).mono ?_
  rintro e w1 ⟨rfl, h1⟩
  have HB1 := Lib.hid (below_next HB0.out h1)
  clear i0 h1
  go_upto_region 2 with (fail)
  refine wp_region_flow (S := fun W => Below w1.heap.size w1 W) (by kernel_rfl) (by kernel_rfl) (Below.drew (Below.refl _ _)) ?_
  iterate 11
   apply Flow.step
   ·intro V2 K hS hK
    go_simp
    exact hK _ hS
   simp only [lQ]
  refine Flow.done ?_
  intro V2 hS
  have HB2 := Lib.hid (below_next HB1.out hS)
  clear hS
  go_wp2_with fail
  go_ret
  exact ⟨rfl, HB2.out⟩
 go_enter Tryz.func80, Tryz.ntmps80
 go_upto_region 1 with (fail)
 generalize e0 : w.alloc _ = W0
 have HB0 := Lib.hid (v_bel e0)
 have KC : Hid (∀ W, Below W0.heap.size W0 W → W.cell? ⟨w.heap.size, 0, none⟩ = some (.int .i64 op) ∧ W.cell? ⟨w.heap.size, 1, none⟩ = some (.int .i64 di) ∧ W.cell? ⟨w.heap.size, 2, none⟩ = some (.int .i64 si) ∧ W.cell? ⟨w.heap.size, 3, none⟩ = some (.int .u16 imm) ∧ W.cell? ⟨w.heap.size, 4, none⟩ = some (.int .u16 aux) ∧ W.cell? ⟨w.heap.size, 5, none⟩ = some (.int .i64 bank) ∧ W.cell? ⟨w.heap.size, 6, none⟩ = some (.int .i64 size)) := Lib.hid fun W hW => by
  have hc := Lib.cell_of_heap (v_next hW (v_blk e0))
  exact ⟨hc 0, hc 1, hc 2, hc 3, hc 4, hc 5, hc 6⟩
 clear e0
 obtain ⟨i0, i1, i2, i3, i4, i5, i6⟩ := KC.out W0 (Below.refl _ _)
 go_wp2_with fail
 refine (HF.out _).mono ?_
 rintro e w1 ⟨rfl, h1⟩
 have HB1 := Lib.hid h1
 clear i0 i1 i2 i3 i4 i5 i6 h1
 cases v
 ·obtain rfl : false = R := HR.out
  go_upto_region 2 with (fail)
  refine wp_region_flow (S := fun W => Below w1.heap.size w1 W) (by kernel_rfl) (by kernel_rfl) (Below.drew (Below.refl _ _)) ?_
  iterate 8
   apply Flow.step
   ·intro V2 K hS hK
    obtain ⟨i0, i1, i2, i3, i4, i5, i6⟩ := KC.out _ (below_next HB1.out hS)
    go_simp
    exact hK _ hS
   simp only [lQ]
  apply Flow.step
  ·intro V2 K hS hK
   go_simp
   go_at_call 47
   refine (HZ.out _).mono ?_
   rintro e w9 ⟨rfl, h9⟩
   exact hK _ (below_next hS h9)
  simp only [lQ]
  iterate 2
   apply Flow.step
   ·intro V2 K hS hK
    go_simp
    exact hK _ hS
   simp only [lQ]
  refine Flow.done ?_
  intro V2 hS
  have HB2 := Lib.hid (below_next HB1.out hS)
  clear hS
  go_wp2_with fail
  go_ret
  exact ⟨rfl, below_next HB0.out HB2.out⟩
 go_upto_region 2 with (fail)
 refine wp_region_flow (S := fun W => Below w1.heap.size w1 W) (by kernel_rfl) (by kernel_rfl) (Below.drew (Below.refl _ _)) ?_
 iterate 8
  apply Flow.step
  ·intro V2 K hS hK
   obtain ⟨i0, i1, i2, i3, i4, i5, i6⟩ := KC.out _ (below_next HB1.out hS)
   go_simp
   exact hK _ hS
  simp only [lQ]
 apply Flow.step
 ·intro V2 K hS hK
  go_simp
  go_at_call 47
  refine (HZ.out _).mono ?_
  rintro e w9 ⟨rfl, h9⟩
  exact hK _ (below_next hS h9)
 simp only [lQ]
 iterate 2
  apply Flow.step
  ·intro V2 K hS hK
   go_simp
   exact hK _ hS
  simp only [lQ]
 refine Flow.done ?_
 intro V2 hS
 have HB2 := Lib.hid (below_next HB1.out hS)
 clear hS
 obtain ⟨i0, i1, i2, i3, i4, i5, i6⟩ := KC.out V2 HB2.out
 go_wp2_with fail
 refine (HD.out _).mono ?_
 rintro e w3 ⟨rfl, rfl⟩
 go_wp2_with fail
 refine (HS.out _).mono ?_
 rintro e w3 ⟨rfl, rfl⟩
 go_wp2_with fail
 refine (HG.out _).mono ?_
 rintro e w3 ⟨rfl, rfl⟩
 go_upto_region 11 with (fail)
 have HBZ := Lib.hid (below_next HB0.out HB2.out)
 go_cut [11] (fun s11 wx => s11 = .bool bk ∧ wx = V2)
 case first =>
  have hbk := HBK.out
  cases b0 <;> (go_upto_region 12 with (fail); go_meet; exact ⟨by first | (rw [← hbk]; done) | (rw [← hbk]; rfl), rfl⟩)
 case rest =>
 obtain ⟨rfl, rfl⟩ := hcut
 rcases (show f = 1 ∨ f = 2 ∨ f = 3 ∨ f = 4 ∨ f = 5 ∨ f = 6 ∨ f = 7 ∨ f = 8 ∨ f = 9 ∨ f = 10 ∨ f = 11 ∨ f = 12 ∨ f = 13 ∨ f = 14 ∨ f = 15 ∨ f = 16 ∨ f = 17 ∨ f = 18 by have := HBD.out; have := HU.out; simp at this; omega) with rfl | rfl | rfl | rfl | rfl | rfl | rfl | rfl | rfl | rfl | rfl | rfl | rfl | rfl | rfl | rfl | rfl | rfl
 ·as_aux_lemma =>
  cases nD
  ·obtain rfl : false = R := HR.out
   go_wp2_with fail
   go_ret
   exact ⟨rfl, HBZ.out⟩
  cases nS
  ·obtain rfl : false = R := HR.out
   go_wp2_with fail
   go_ret
   exact ⟨rfl, HBZ.out⟩
  cases z
  ·obtain rfl : false = R := HR.out
   go_wp2_with fail
   go_ret
   exact ⟨rfl, HBZ.out⟩
  cases nA
  ·obtain rfl : false = R := HR.out
   go_wp2_with fail
   go_ret
   exact ⟨rfl, HBZ.out⟩
  obtain rfl : nB = R := HR.out
  go_wp2_with fail
  go_ret
  exact ⟨rfl, HBZ.out⟩
 ·as_aux_lemma =>
  cases d
  ·obtain rfl : false = R := HR.out
   go_wp2_with fail
   go_ret
   exact ⟨rfl, HBZ.out⟩
  cases nS
  ·obtain rfl : false = R := HR.out
   go_wp2_with fail
   go_ret
   exact ⟨rfl, HBZ.out⟩
  cases z
  ·obtain rfl : false = R := HR.out
   go_wp2_with fail
   go_ret
   exact ⟨rfl, HBZ.out⟩
  cases nA
  ·obtain rfl : false = R := HR.out
   go_wp2_with fail
   go_ret
   exact ⟨rfl, HBZ.out⟩
  obtain rfl : nB = R := HR.out
  go_wp2_with fail
  go_ret
  exact ⟨rfl, HBZ.out⟩
 ·as_aux_lemma =>
  cases nD
  ·obtain rfl : false = R := HR.out
   go_wp2_with fail
   go_ret
   exact ⟨rfl, HBZ.out⟩
  cases nS
  ·obtain rfl : false = R := HR.out
   go_wp2_with fail
   go_ret
   exact ⟨rfl, HBZ.out⟩
  cases l
  ·obtain rfl : false = R := HR.out
   go_wp2_with fail
   go_ret
   exact ⟨rfl, HBZ.out⟩
  cases nA
  ·obtain rfl : false = R := HR.out
   go_wp2_with fail
   go_ret
   exact ⟨rfl, HBZ.out⟩
  obtain rfl : nB = R := HR.out
  go_wp2_with fail
  go_ret
  exact ⟨rfl, HBZ.out⟩
 ·as_aux_lemma =>
  cases d
  ·obtain rfl : false = R := HR.out
   go_wp2_with fail
   go_ret
   exact ⟨rfl, HBZ.out⟩
  cases s
  ·obtain rfl : false = R := HR.out
   go_wp2_with fail
   go_ret
   exact ⟨rfl, HBZ.out⟩
  cases z
  ·obtain rfl : false = R := HR.out
   go_wp2_with fail
   go_ret
   exact ⟨rfl, HBZ.out⟩
  cases nA
  ·obtain rfl : false = R := HR.out
   go_wp2_with fail
   go_ret
   exact ⟨rfl, HBZ.out⟩
  obtain rfl : nB = R := HR.out
  go_wp2_with fail
  go_ret
  exact ⟨rfl, HBZ.out⟩
 ·as_aux_lemma =>
  cases d
  ·obtain rfl : false = R := HR.out
   go_wp2_with fail
   go_ret
   exact ⟨rfl, HBZ.out⟩
  cases nS
  ·obtain rfl : false = R := HR.out
   go_wp2_with fail
   go_ret
   exact ⟨rfl, HBZ.out⟩
  cases sg
  ·obtain rfl : false = R := HR.out
   go_wp2_with fail
   go_ret
   exact ⟨rfl, HBZ.out⟩
  cases nA
  ·obtain rfl : false = R := HR.out
   go_wp2_with fail
   go_ret
   exact ⟨rfl, HBZ.out⟩
  obtain rfl : nB = R := HR.out
  go_wp2_with fail
  go_ret
  exact ⟨rfl, HBZ.out⟩
 ·as_aux_lemma =>
  cases d
  ·obtain rfl : false = R := HR.out
   go_wp2_with fail
   go_ret
   exact ⟨rfl, HBZ.out⟩
  cases nS
  ·obtain rfl : false = R := HR.out
   go_wp2_with fail
   go_ret
   exact ⟨rfl, HBZ.out⟩
  cases nA
  ·obtain rfl : false = R := HR.out
   go_wp2_with fail
   go_ret
   exact ⟨rfl, HBZ.out⟩
  obtain rfl : nB = R := HR.out
  go_wp2_with fail
  go_ret
  exact ⟨rfl, HBZ.out⟩
 ·as_aux_lemma =>
  cases d
  ·obtain rfl : false = R := HR.out
   go_wp2_with fail
   go_ret
   exact ⟨rfl, HBZ.out⟩
  cases s
  ·obtain rfl : false = R := HR.out
   go_wp2_with fail
   go_ret
   exact ⟨rfl, HBZ.out⟩
  cases sg
  ·obtain rfl : false = R := HR.out
   go_wp2_with fail
   go_ret
   exact ⟨rfl, HBZ.out⟩
  cases nA
  ·obtain rfl : false = R := HR.out
   go_wp2_with fail
   go_ret
   exact ⟨rfl, HBZ.out⟩
  obtain rfl : nB = R := HR.out
  go_wp2_with fail
  go_ret
  exact ⟨rfl, HBZ.out⟩
 ·as_aux_lemma =>
  cases d
  ·obtain rfl : false = R := HR.out
   go_wp2_with fail
   go_ret
   exact ⟨rfl, HBZ.out⟩
  cases s
  ·obtain rfl : false = R := HR.out
   go_wp2_with fail
   go_ret
   exact ⟨rfl, HBZ.out⟩
  cases nA
  ·obtain rfl : false = R := HR.out
   go_wp2_with fail
   go_ret
   exact ⟨rfl, HBZ.out⟩
  obtain rfl : nB = R := HR.out
  go_wp2_with fail
  go_ret
  exact ⟨rfl, HBZ.out⟩
 ·as_aux_lemma =>
  cases d
  ·obtain rfl : false = R := HR.out
   go_wp2_with fail
   go_ret
   exact ⟨rfl, HBZ.out⟩
  cases nS
  ·obtain rfl : false = R := HR.out
   go_wp2_with fail
   go_ret
   exact ⟨rfl, HBZ.out⟩
  cases nA
  ·obtain rfl : false = R := HR.out
   go_wp2_with fail
   go_ret
   exact ⟨rfl, HBZ.out⟩
  obtain rfl : nB = R := HR.out
  go_wp2_with fail
  go_ret
  exact ⟨rfl, HBZ.out⟩
 ·as_aux_lemma =>
  cases nD
  ·obtain rfl : false = R := HR.out
   go_wp2_with fail
   go_ret
   exact ⟨rfl, HBZ.out⟩
  cases nS
  ·obtain rfl : false = R := HR.out
   go_wp2_with fail
   go_ret
   exact ⟨rfl, HBZ.out⟩
  cases sg
  ·obtain rfl : false = R := HR.out
   go_wp2_with fail
   go_ret
   exact ⟨rfl, HBZ.out⟩
  cases nA
  ·obtain rfl : false = R := HR.out
   go_wp2_with fail
   go_ret
   exact ⟨rfl, HBZ.out⟩
  obtain rfl : nB = R := HR.out
  go_wp2_with fail
  go_ret
  exact ⟨rfl, HBZ.out⟩
 ·as_aux_lemma =>
  cases nD
  ·obtain rfl : false = R := HR.out
   go_wp2_with fail
   go_ret
   exact ⟨rfl, HBZ.out⟩
  cases nS
  ·obtain rfl : false = R := HR.out
   go_wp2_with fail
   go_ret
   exact ⟨rfl, HBZ.out⟩
  cases nA
  ·obtain rfl : false = R := HR.out
   go_wp2_with fail
   go_ret
   exact ⟨rfl, HBZ.out⟩
  obtain rfl : nB = R := HR.out
  go_wp2_with fail
  go_ret
  exact ⟨rfl, HBZ.out⟩
 ·as_aux_lemma =>
  cases nD
  ·obtain rfl : false = R := HR.out
   go_wp2_with fail
   go_ret
   exact ⟨rfl, HBZ.out⟩
  cases nS
  ·obtain rfl : false = R := HR.out
   go_wp2_with fail
   go_ret
   exact ⟨rfl, HBZ.out⟩
  cases nA
  ·obtain rfl : false = R := HR.out
   go_wp2_with fail
   go_ret
   exact ⟨rfl, HBZ.out⟩
  obtain rfl : bk = R := HR.out
  go_wp2_with fail
  go_ret
  exact ⟨rfl, HBZ.out⟩
 ·as_aux_lemma =>
  cases d
  ·obtain rfl : false = R := HR.out
   go_wp2_with fail
   go_ret
   exact ⟨rfl, HBZ.out⟩
  cases nS
  ·obtain rfl : false = R := HR.out
   go_wp2_with fail
   go_ret
   exact ⟨rfl, HBZ.out⟩
  cases t1
  ·obtain rfl : false = R := HR.out
   go_wp2_with fail
   go_ret
   exact ⟨rfl, HBZ.out⟩
  obtain rfl : t2 = R := HR.out
  go_wp2_with fail
  go_ret
  exact ⟨rfl, HBZ.out⟩
 ·as_aux_lemma =>
  cases d
  ·obtain rfl : false = R := HR.out
   go_wp2_with fail
   go_ret
   exact ⟨rfl, HBZ.out⟩
  cases nS
  ·obtain rfl : false = R := HR.out
   go_wp2_with fail
   go_ret
   exact ⟨rfl, HBZ.out⟩
  cases nA
  ·obtain rfl : false = R := HR.out
   go_wp2_with fail
   go_ret
   exact ⟨rfl, HBZ.out⟩
  obtain rfl : nB = R := HR.out
  go_wp2_with fail
  go_ret
  exact ⟨rfl, HBZ.out⟩
 ·as_aux_lemma =>
  cases d
  ·obtain rfl : false = R := HR.out
   go_wp2_with fail
   go_ret
   exact ⟨rfl, HBZ.out⟩
  cases nS
  ·obtain rfl : false = R := HR.out
   go_wp2_with fail
   go_ret
   exact ⟨rfl, HBZ.out⟩
  cases l
  ·obtain rfl : false = R := HR.out
   go_wp2_with fail
   go_ret
   exact ⟨rfl, HBZ.out⟩
  cases nA
  ·obtain rfl : false = R := HR.out
   go_wp2_with fail
   go_ret
   exact ⟨rfl, HBZ.out⟩
  obtain rfl : nB = R := HR.out
  go_wp2_with fail
  go_ret
  exact ⟨rfl, HBZ.out⟩
 ·as_aux_lemma =>
  cases d
  ·obtain rfl : false = R := HR.out
   go_wp2_with fail
   go_ret
   exact ⟨rfl, HBZ.out⟩
  cases s
  ·obtain rfl : false = R := HR.out
   go_wp2_with fail
   go_ret
   exact ⟨rfl, HBZ.out⟩
  cases nA
  ·obtain rfl : false = R := HR.out
   go_wp2_with fail
   go_ret
   exact ⟨rfl, HBZ.out⟩
  obtain rfl : bk = R := HR.out
  go_wp2_with fail
  go_ret
  exact ⟨rfl, HBZ.out⟩
 ·as_aux_lemma =>
  cases nD
  ·obtain rfl : false = R := HR.out
   go_wp2_with fail
   go_ret
   exact ⟨rfl, HBZ.out⟩
  cases s
  ·obtain rfl : false = R := HR.out
   go_wp2_with fail
   go_ret
   exact ⟨rfl, HBZ.out⟩
  obtain rfl : nB = R := HR.out
  go_wp2_with fail
  go_ret
  exact ⟨rfl, HBZ.out⟩
 ·as_aux_lemma =>
  cases d
  ·obtain rfl : false = R := HR.out
   go_wp2_with fail
   go_ret
   exact ⟨rfl, HBZ.out⟩
  cases nS
  ·obtain rfl : false = R := HR.out
   go_wp2_with fail
   go_ret
   exact ⟨rfl, HBZ.out⟩
  cases sg
  ·obtain rfl : false = R := HR.out
   go_wp2_with fail
   go_ret
   exact ⟨rfl, HBZ.out⟩
  cases nA
  ·obtain rfl : false = R := HR.out
   go_wp2_with fail
   go_ret
   exact ⟨rfl, HBZ.out⟩
  obtain rfl : nB = R := HR.out
  go_wp2_with fail
  go_ret
  exact ⟨rfl, HBZ.out⟩
end Go.Proofs.YtieaicdihingkaaGreat
