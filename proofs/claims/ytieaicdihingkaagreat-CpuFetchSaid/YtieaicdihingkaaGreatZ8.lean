/- The reference's machine: stack. -/
import Derived.Test.YtieaicdihingkaaGreatZ6
namespace Go.Proofs.YtieaicdihingkaaGreat
set_option linter.unusedVariables false
set_option linter.unusedSimpArgs false
open Go.RowKit
/-- The outcome of an instruction in the reference's machine. -/
def EndsR (s : RSt) (r : Except (Int × Int) Mach) (s' : RSt) : Prop := match r with | .ok m => s' = { s with m := m } | .error t => s'.k = t.1 ∧ s'.i = t.2
def LeavesR (b0 : Nat) (U : World) (E : Env) (B g : Nat) (s : RSt) (r : Except (Int × Int) Mach) (e : Ending) (w' : World) : Prop := e = .returned (.tuple #[]) ∧ ∃ s', RM b0 U E B g s' w' ∧ EndsR s r s'
theorem RM.from {b0 : Nat} {U V W : World} {E : Env} {B g : Nat} {s s' : RSt} (h : RM b0 U E B g s V) (k : RM b0 V E B g s' W) : RM b0 U E B g s' W := ⟨k.1, h.2.trans k.2⟩
theorem Kz.ins {b0 : Nat} {U V : World} (h : Kz b0 U V) {q : Nat} {C : Array Value} (hq : U.heap[q]? = some (.cells C 68 (0, 0))) : V.heap[q]? = some (.cells C 68 (0, 0)) := by
 refine (h.2.1 q (at_lt hq) (.inr fun c t f e => ?_)).trans hq
 rw [hq] at e
 injection e with e
 injection e with _ e
 subst e
 exact ⟨by decide, by decide, by decide, by decide⟩
/-- The cells of the instruction, in a box made ahead of W0. -/
def InsZ (W0 : World) (q : Nat) (i : InsI) : Prop := W0.heap[q]? = some (.cells #[.int .i64 i.op, .int .i64 i.d, .int .i64 i.s, .int .u16 i.imm, .int .u16 i.aux, .int .i64 i.bank, .int .i64 i.size] 68 (0, 0))
theorem InsZ.at {b0 : Nat} {W0 W : World} {q : Nat} {i : InsI} (h : InsZ W0 q i) (k : Kz b0 W0 W) : W.cell? ⟨q, 0, none⟩ = some (.int .i64 i.op) ∧ W.cell? ⟨q, 1, none⟩ = some (.int .i64 i.d) ∧ W.cell? ⟨q, 2, none⟩ = some (.int .i64 i.s) ∧ W.cell? ⟨q, 3, none⟩ = some (.int .u16 i.imm) ∧ W.cell? ⟨q, 4, none⟩ = some (.int .u16 i.aux) ∧ W.cell? ⟨q, 5, none⟩ = some (.int .i64 i.bank) ∧ W.cell? ⟨q, 6, none⟩ = some (.int .i64 i.size) := by
 have h9 := k.ins h
 exact ⟨Lib.cell_of_heap h9 0, Lib.cell_of_heap h9 1, Lib.cell_of_heap h9 2, Lib.cell_of_heap h9 3, Lib.cell_of_heap h9 4, Lib.cell_of_heap h9 5, Lib.cell_of_heap h9 6⟩
theorem StrsLow.kz {b0 : Nat} {V W : World} {a : Option Addr} {l : List ByteArray} (h : StrsLow b0 V a l) (k : Kz b0 V W) : StrsLow b0 W a l := by
 intro j s hj
 obtain ⟨B, e, hB, hc, hs⟩ := h j s hj
 exact ⟨B, e, hB, k.cell hB hc, hs⟩

/-- The instruction in a box of its own. -/
theorem box_z {b0 : Nat} {U V : World} {E : Env} {B g : Nat} {s : RSt} (h : RM b0 U E B g s V) (a b c d e f x : Int) :
 Hid (InsZ (V.alloc (.cells #[.int .i64 a, .int .i64 b, .int .i64 c, .int .u16 d, .int .u16 e, .int .i64 f, .int .i64 x] 68)) V.heap.size ⟨a, b, c, d, e, f, x⟩) ∧
 Hid (RM b0 (V.alloc (.cells #[.int .i64 a, .int .i64 b, .int .i64 c, .int .u16 d, .int .u16 e, .int .i64 f, .int .i64 x] 68)) E B g s (V.alloc (.cells #[.int .i64 a, .int .i64 b, .int .i64 c, .int .u16 d, .int .u16 e, .int .i64 f, .int .i64 x] 68))) ∧
 Hid (RM b0 U E B g s (V.alloc (.cells #[.int .i64 a, .int .i64 b, .int .i64 c, .int .u16 d, .int .u16 e, .int .i64 f, .int .i64 x] 68))) :=
 ⟨Lib.hid (alloc_at V _), Lib.hid (h.next (below1 V _)).over, Lib.hid (h.next (below1 V _))⟩
variable {b0 : Nat} {U V : World} {E : Env} {B g : Nat} {s : RSt}
theorem rfail_ends {s : RSt} (h : s.k = 0) (a b : Int) : (rfail s a b).k = a ∧ (rfail s a b).i = b := by unfold rfail; rw [if_pos h]; exact ⟨rfl, rfl⟩
def popsN (s : RSt) : Nat → RSt
 | 0 => s
 | j + 1 => (rpop (popsN s j)).1
def pushN (s : RSt) : Nat → RSt
 | 0 => s
 | j + 1 => rpush (pushN s j) 0
theorem rfail_st (s : RSt) (a b : Int) : (rfail s a b).m = s.m := by unfold rfail; split <;> rfl
theorem rpop_len (s : RSt) : (rpop s).1.m.st.length ≤ s.m.st.length := by
 unfold rpop
 cases h : s.m.st.getLast? with
 | none => simp only [rfail_st]; exact Nat.le_refl _
 | some x => simp [setSt]
theorem popsN_len (s : RSt) : ∀ j, (popsN s j).m.st.length ≤ s.m.st.length
 | 0 => Nat.le_refl _
 | j + 1 => Nat.le_trans (rpop_len _) (popsN_len s j)
theorem rpush_len {s : RSt} (h : s.m.st.length ≤ 4096) (x : Int) : (rpush s x).m.st.length ≤ 4096 := by
 unfold rpush
 split
 ·rw [rfail_st]; exact h
 ·simp [setSt]; omega
theorem pushN_len {s : RSt} (h : s.m.st.length ≤ 4096) : ∀ j, (pushN s j).m.st.length ≤ 4096
 | 0 => h
 | j + 1 => rpush_len (pushN_len h j) 0
theorem rfail_stay {s : RSt} (h : s.k ≠ 0) (a b : Int) : rfail s a b = s := if_neg h
theorem popsN_ok (s : RSt) : ∀ j, j ≤ s.m.st.length → popsN s j = { s with m := setSt s.m (s.m.st.take (s.m.st.length - j)) }
 | 0, _ => by simp [popsN, setSt]
 | j + 1, h => by
  unfold popsN
  rw [popsN_ok s j (by omega)]
  unfold rpop
  obtain ⟨l, hl⟩ : ∃ l, s.m.st.take (s.m.st.length - j) = l := ⟨_, rfl⟩
  have hlen : l.length = s.m.st.length - j := by rw [← hl, List.length_take]; omega
  simp only [setSt, hl]
  rcases List.eq_nil_or_concat l with rfl | ⟨l', x, rfl⟩
  ·simp at hlen; omega
  ·have hl' : l'.length = s.m.st.length - (j + 1) := by
    simp at hlen
    omega
   have h9 : l' = s.m.st.take (s.m.st.length - (j + 1)) := by
    have h8 : (l' ++ [x]).take l'.length = (s.m.st.take (s.m.st.length - j)).take l'.length := by rw [hl]; simp
    rw [List.take_take, Nat.min_eq_left (by omega), hl'] at h8
    rw [← h8, ← hl']
    simp
   simp [h9]
theorem popsN_bad {s : RSt} (hk : s.k = 0) : ∀ j, s.m.st.length < j → (popsN s j).k = 5 ∧ (popsN s j).i = 0 ∧ (popsN s j).m.st = []
 | 0, h => by omega
 | j + 1, h => by
  unfold popsN
  by_cases hj : j = s.m.st.length
  ·rw [popsN_ok s j (by omega), hj]
   unfold rpop
   simp [setSt]
   refine ⟨(rfail_ends ?_ 5 0).1, (rfail_ends ?_ 5 0).2, by rw [rfail_st]⟩ <;> exact hk
  ·obtain ⟨h1, h2, h3⟩ := popsN_bad hk j (by omega)
   unfold rpop
   rw [h3]
   simp only [List.getLast?_nil]
   rw [rfail_stay (by rw [h1]; decide)]
   exact ⟨h1, h2, h3⟩
theorem drop_ends {s : RSt} (hk : s.k = 0) (n : Nat) : EndsR s (dropM s.m (n : Int)) (popsN s n) := by
 unfold EndsR dropM
 rw [Int.toNat_natCast]
 by_cases h : n ≤ s.m.st.length
 ·rw [if_pos h]; exact popsN_ok s n h
 ·rw [if_neg h]
  have h9 := popsN_bad hk n (by omega)
  exact ⟨h9.1, h9.2.1⟩
set_option maxRecDepth 20000 in
set_option maxHeartbeats 8000000 in
theorem st_push (h : RM b0 U E B g s V) (ok : s.m.Ok) (k0 : s.k = 0) (d : Nat) (hd : d < 8) (si imm aux bank size : Int) (hi : OkU16 imm) : Calls Tryz.prog 29 #[.pointer (some ⟨B, 0, none⟩), .agg #[.int .i64 16, .int .i64 (d : Int), .int .i64 si, .int .u16 imm, .int .u16 aux, .int .i64 bank, .int .i64 size]] V (LeavesR b0 U E B g s (pushM s.m (s.m.R d))) := by
 obtain ⟨HZ, HR, HU⟩ := box_z h 16 d si imm aux bank size
 have OK := Lib.hid ok
 have K0 := Lib.hid k0
 have HD := Lib.hid hd
 have HI := Lib.hid hi
 have d0 : (0 : Int) ≤ (d : Int) := by omega
 have d1 : (d : Int) < 8 := by omega
 clear h ok k0 hd hi
 go_enter Tryz.func29, Tryz.ntmps29
 go_upto_region 1 with (fail)
 generalize V.alloc _ = W0 at *
 obtain ⟨q, hq⟩ : ∃ q, V.heap.size = q := ⟨_, rfl⟩
 rw [hq] at HZ ⊢
 clear hq
 obtain ⟨i0, i1, i2, i3, i4, i5, i6⟩ := HZ.out.at (Kz.refl b0 W0)
 go_upto_region 5 with (fail)
 clear i0 i1 i2 i3 i4 i5 i6
 refine' wp_region_flowR [[], [], [], [(27, 2)], [(26, 1)], [(29, 4)], [(30, 5)], [(31, 6), (28, 3)], [(32, 7)], [(25, 0), (26, 1), (27, 2), (28, 3), (29, 4), (30, 5), (31, 6), (32, 7), (33, 8)]] (relL [eqV _, eqV _, eqV _, eqV _, eqV _, eqV _, eqV _, eqV _, eqV _]) (by kernel_rfl) (by kernel_rfl) ?_
 rotate_left 9
 iterate 9
  refine FlowR.step ?_ ?_
  ·intro V hV
   simp only [Dep, lQ]
   repeat rintro _ ⟨_, rfl, _⟩
   intro K hK
   obtain ⟨i0, i1, i2, i3, i4, i5, i6⟩ := HZ.out.at ((Kz.refl b0 W0).next hV)
   have cR := (HR.out.next hV).cellR d HD.out
   go_simp
   refine hK _ _ ?_ (Below.refl _ _)
   simp only [lR]
   exact rfl
 refine FlowR.last ?_
 intro V hV
 simp only [Dep, lQ]
 repeat rintro _ ⟨_, rfl, _⟩
 intro K hK
 obtain ⟨i0, i1, i2, i3, i4, i5, i6⟩ := HZ.out.at ((Kz.refl b0 W0).next hV)
 have cR := (HR.out.next hV).cellR d HD.out
 go_simp
 go_at_call 49
 refine (push_z (HR.out.next hV) (by have := OK.out.len; omega) (s.m.R d)).mono ?_
 rintro e w ⟨rfl, hw⟩
 refine hK _ _ ?_
 have HW := Lib.hid (HU.out.from hw)
 clear hw hV hK i0 i1 i2 i3 i4 i5 i6 cR
 go_wp2_with fail
 refine ends (v := .tuple #[]) (by simp [results, Tryz.results29]) rfl ⟨rfl, _, HW.out, ?_⟩
 unfold EndsR pushM rpush
 have := OK.out.len
 by_cases hl : 4096 ≤ s.m.st.length
 ·rw [if_pos hl, if_neg (by omega)]
  exact rfail_ends K0.out 5 0
 ·rw [if_neg hl, if_pos (by omega)]
set_option maxRecDepth 20000 in
set_option maxHeartbeats 8000000 in
theorem st_pop (h : RM b0 U E B g s V) (ok : s.m.Ok) (k0 : s.k = 0) (d : Nat) (hd : d < 8) (si imm aux bank size : Int) (hi : OkU16 imm) : Calls Tryz.prog 29 #[.pointer (some ⟨B, 0, none⟩), .agg #[.int .i64 17, .int .i64 (d : Int), .int .i64 si, .int .u16 imm, .int .u16 aux, .int .i64 bank, .int .i64 size]] V (LeavesR b0 U E B g s (popM s.m d)) := by
 obtain ⟨HZ, HR, HU⟩ := box_z h 17 d si imm aux bank size
 have OK := Lib.hid ok
 have K0 := Lib.hid k0
 have HD := Lib.hid hd
 have HI := Lib.hid hi
 have d0 : (0 : Int) ≤ (d : Int) := by omega
 have d1 : (d : Int) < 8 := by omega
 clear h ok k0 hd hi
 go_enter Tryz.func29, Tryz.ntmps29
 go_upto_region 1 with (fail)
 generalize V.alloc _ = W0 at *
 obtain ⟨q, hq⟩ : ∃ q, V.heap.size = q := ⟨_, rfl⟩
 rw [hq] at HZ ⊢
 clear hq
 obtain ⟨i0, i1, i2, i3, i4, i5, i6⟩ := HZ.out.at (Kz.refl b0 W0)
 have HP := Lib.hid (fun V (h : RM b0 W0 E B g s V) => pop_z h (by have := OK.out.len; omega))
 obtain ⟨s1, hs1⟩ : ∃ s1, (rpop s).1 = s1 := ⟨_, rfl⟩
 obtain ⟨x, hx⟩ : ∃ x, (rpop s).2 = x := ⟨_, rfl⟩
 rw [hs1, hx] at HP
 have HS1 := Lib.hid hs1
 have HX := Lib.hid hx
 clear hs1 hx
 go_upto_region 7 with (fail)
 clear i0 i1 i2 i3 i4 i5 i6
 refine wp_region_flowW (S0 := fun W => Below W0.heap.size W0 W) (S1 := fun W => RM b0 W0 E B g s1 W) (Z := fun _ _ => False) 4 (by kernel_rfl) (by kernel_rfl) (by kernel_rfl) (Below.drew (Below.refl _ _)) (fun chain b w' hd hz => hz.elim) ?_
 iterate 4
  apply FlowW.step
  ·intro V3 K hS hK
   obtain ⟨i0, i1, i2, i3, i4, i5, i6⟩ := HZ.out.at (hS.elim (fun h => (Kz.refl b0 W0).next h) fun h => h.2)
   go_simp
   exact hK
  simp only [lQ]
 refine FlowW.call ?_ rfl ?_ ?_
 rotate_left
 ·intro V3 K hS hK
  go_simp
  go_at_call 50
  refine (HP.out _ (HR.out.next hS)).mono ?_
  rintro e w9 ⟨rfl, h9⟩
  exact hK _ h9
 simp only [lQ]
 iterate 4
  apply FlowW.after
  ·intro V3 K hS hK
   obtain ⟨i0, i1, i2, i3, i4, i5, i6⟩ := HZ.out.at (hS.elim (fun h => (Kz.refl b0 W0).next h) fun h => h.2)
   go_simp
   exact hK
  simp only [lQ]
 refine FlowW.last ?_
 intro V3 K hS hK
 have cR := hS.cellR d HD.out
 have zR := hS.frz (7 + d)
 go_simp
 refine hK _ _ ?_
 have HW := Lib.hid (HU.out.from (hS.putR d HD.out x rfl))
 clear hS hK cR zR
 go_wp2_with fail
 refine ends (v := .tuple #[]) (by simp [results, Tryz.results29]) rfl ⟨rfl, _, HW.out, ?_⟩
 unfold EndsR popM
 rw [← HS1.out, ← HX.out]
 unfold rpop
 cases hl : s.m.st.getLast? with
 | none => exact rfail_ends K0.out 5 0
 | some x => rfl
set_option maxRecDepth 20000 in
set_option maxHeartbeats 8000000 in
theorem st_drop (h : RM b0 U E B g s V) (ok : s.m.Ok) (k0 : s.k = 0) (d : Nat) (hd : d < 8) (si imm aux bank size : Int) (hi : OkU16 imm) : Calls Tryz.prog 29 #[.pointer (some ⟨B, 0, none⟩), .agg #[.int .i64 21, .int .i64 (d : Int), .int .i64 si, .int .u16 imm, .int .u16 aux, .int .i64 bank, .int .i64 size]] V (LeavesR b0 U E B g s (dropM s.m (imm))) := by
 obtain ⟨HZ, HR, HU⟩ := box_z h 21 d si imm aux bank size
 have OK := Lib.hid ok
 have K0 := Lib.hid k0
 have HD := Lib.hid hd
 have HI := Lib.hid hi
 have d0 : (0 : Int) ≤ (d : Int) := by omega
 have d1 : (d : Int) < 8 := by omega
 obtain ⟨n, rfl⟩ : ∃ n : Nat, imm = (n : Int) := ⟨imm.toNat, by have := hi.1; omega⟩
 have hn : n < 65536 := by have := hi.2; omega
 have xw : IntKind.i64.wrap (n : Int) = (n : Int) := IntWalk.i64_in _ (by omega)
 have HNN := Lib.hid hn
 clear h ok k0 hd hi hn
 go_enter Tryz.func29, Tryz.ntmps29
 go_upto_region 1 with (fail)
 generalize V.alloc _ = W0 at *
 obtain ⟨q, hq⟩ : ∃ q, V.heap.size = q := ⟨_, rfl⟩
 rw [hq] at HZ ⊢
 clear hq
 obtain ⟨i0, i1, i2, i3, i4, i5, i6⟩ := HZ.out.at (Kz.refl b0 W0)
 have HP := Lib.hid (fun V s' (h : RM b0 W0 E B g s' V) hl => pop_z h hl)
 go_wp2_with fail
 clear i0 i1 i2 i3 i4 i5 i6
 go_loopw [7] (fun k_ wr => ∃ j : Nat, j ≤ n ∧ k_ = .int .i64 (j : Int) ∧ RM b0 W0 E B g (popsN s j) wr) (fun k_ _ => n - (intOf k_).toNat)
 case atStart => exact ⟨0, by omega, rfl, HR.out⟩
 case round =>
  obtain ⟨j, hj, rfl, hrm⟩ := hrel
  have HRM := Lib.hid hrm
  obtain ⟨i0, i1, i2, i3, i4, i5, i6⟩ := HZ.out.at hrm.2
  clear hrm
  by_cases hlt : j < n
  ·have t0 : decide ((j : Int) < (n : Int)) = true := decide_eq_true (by omega)
   have t1 : decide (j < n) = true := decide_eq_true hlt
   have x9 : IntKind.i64.wrap ((j : Int) + 1) = (j : Int) + 1 := IntWalk.i64_in _ (by have := HNN.out; omega)
   have HLT := Lib.hid hlt
   clear hlt hj
   go_wp2_with fail
   refine (HP.out _ _ HRM.out (Nat.le_trans (popsN_len s j) (by have := OK.out.len; omega))).mono ?_
   rintro e w ⟨rfl, hw⟩
   have HW := Lib.hid hw
   clear hw i0 i1 i2 i3 i4 i5 i6
   go_wp2_with fail
   go_roundw
   case rel => exact ⟨j + 1, HLT.out, by go_num, HW.out⟩
   case measure => have := HLT.out; simp only [intOf]; omega
  ·obtain rfl : j = n := by omega
   have t0 : decide ((j : Int) < (j : Int)) = false := decide_eq_false (by omega)
   have t1 : decide (j < j) = false := decide_eq_false (by omega)
   clear hj hlt
   go_wp2_with fail
   exact ends (v := .tuple #[]) (by simp [results, Tryz.results29]) rfl ⟨rfl, _, HU.out.from HRM.out, drop_ends K0.out j⟩
theorem pushN_ok {s : RSt} : ∀ j, s.m.st.length + j ≤ 4096 → pushN s j = { s with m := setSt s.m (s.m.st ++ List.replicate j 0) }
 | 0, _ => by simp [pushN, setSt]
 | j + 1, h => by
  unfold pushN
  rw [pushN_ok j (by omega)]
  unfold rpush
  rw [if_neg (by simp [setSt]; omega)]
  simp [setSt, List.replicate_succ', List.append_assoc]
theorem pushN_full {s : RSt} (hk : s.k = 0) (hl : s.m.st.length ≤ 4096) : ∀ j, 4096 < s.m.st.length + j → (pushN s j).k = 5 ∧ (pushN s j).i = 0 ∧ (pushN s j).m.st.length = 4096
 | 0, h => by omega
 | j + 1, h => by
  unfold pushN
  by_cases hj : s.m.st.length + j = 4096
  ·rw [pushN_ok j (by omega)]
   unfold rpush
   rw [if_pos (by simp [setSt]; omega)]
   refine ⟨(rfail_ends ?_ 5 0).1, (rfail_ends ?_ 5 0).2, by rw [rfail_st]; simp [setSt]; omega⟩ <;> exact hk
  ·obtain ⟨h1, h2, h3⟩ := pushN_full hk hl j (by omega)
   unfold rpush
   rw [if_pos (by omega), rfail_stay (by rw [h1]; decide)]
   exact ⟨h1, h2, h3⟩
theorem rpush_bad {s : RSt} (hk : s.k = 0) (h : 4096 ≤ s.m.st.length) (x : Int) : (rpush s x).k = 5 ∧ (rpush s x).i = 0 ∧ (rpush s x).m.st.length = s.m.st.length := by
 unfold rpush
 rw [if_pos h]
 exact ⟨(rfail_ends hk 5 0).1, (rfail_ends hk 5 0).2, by rw [rfail_st]⟩
theorem pushN_stay {s : RSt} (hk : s.k = 5) (hl : 4096 ≤ s.m.st.length) : ∀ j, pushN s j = s
 | 0 => rfl
 | j + 1 => by
  unfold pushN
  rw [pushN_stay hk hl j]
  unfold rpush
  rw [if_pos hl, rfail_stay (by rw [hk]; decide)]
theorem enter_ends {s : RSt} (hk : s.k = 0) (hl : s.m.st.length ≤ 4096) (n : Nat) : EndsR s (enterM s.m (n : Int)) { pushN (rpush s s.m.fp) n with m := { (pushN (rpush s s.m.fp) n).m with fp := (s.m.st.length : Int) + 1 } } := by
 unfold EndsR enterM
 rw [Int.toNat_natCast]
 by_cases h1 : s.m.st.length + 1 ≤ 4096
 ·rw [if_pos h1]
  have hp : rpush s s.m.fp = { s with m := setSt s.m (s.m.st ++ [s.m.fp]) } := if_neg (by omega)
  by_cases h2 : s.m.st.length + 1 + n ≤ 4096
  ·rw [if_pos h2, hp, pushN_ok n (by simp [setSt]; omega)]
   rfl
  ·rw [if_neg h2, hp]
   have h9 := pushN_full (s := { s with m := setSt s.m (s.m.st ++ [s.m.fp]) }) hk (by simp [setSt]; omega) n (by simp [setSt]; omega)
   exact ⟨h9.1, h9.2.1⟩
 ·rw [if_neg h1]
  have h9 := rpush_bad hk (show 4096 ≤ s.m.st.length by omega) s.m.fp
  rw [pushN_stay h9.1 (by omega)]
  exact ⟨h9.1, h9.2.1⟩
set_option maxRecDepth 20000 in
set_option maxHeartbeats 8000000 in
theorem st_enter (h : RM b0 U E B g s V) (ok : s.m.Ok) (k0 : s.k = 0) (d : Nat) (hd : d < 8) (si imm aux bank size : Int) (hi : OkU16 imm) : Calls Tryz.prog 29 #[.pointer (some ⟨B, 0, none⟩), .agg #[.int .i64 20, .int .i64 (d : Int), .int .i64 si, .int .u16 imm, .int .u16 aux, .int .i64 bank, .int .i64 size]] V (LeavesR b0 U E B g s (enterM s.m (imm))) := by
 obtain ⟨HZ, HR, HU⟩ := box_z h 20 d si imm aux bank size
 have OK := Lib.hid ok
 have K0 := Lib.hid k0
 have HD := Lib.hid hd
 have HI := Lib.hid hi
 have d0 : (0 : Int) ≤ (d : Int) := by omega
 have d1 : (d : Int) < 8 := by omega
 obtain ⟨n, rfl⟩ : ∃ n : Nat, imm = (n : Int) := ⟨imm.toNat, by have := hi.1; omega⟩
 have hn : n < 65536 := by have := hi.2; omega
 have xw : IntKind.i64.wrap (n : Int) = (n : Int) := IntWalk.i64_in _ (by omega)
 have HNN := Lib.hid hn
 clear h ok k0 hd hi hn
 go_enter Tryz.func29, Tryz.ntmps29
 go_upto_region 1 with (fail)
 generalize V.alloc _ = W0 at *
 obtain ⟨q, hq⟩ : ∃ q, V.heap.size = q := ⟨_, rfl⟩
 rw [hq] at HZ ⊢
 clear hq
 obtain ⟨i0, i1, i2, i3, i4, i5, i6⟩ := HZ.out.at (Kz.refl b0 W0)
 obtain ⟨p, c, c24, _⟩ := HR.out.stack
 have c17 := HR.out.cell 17 (.int .u16 s.m.fp) (fun _ _ => rfl)
 have xl : IntKind.i64.wrap ((s.m.st.length : Int) + 1) = (s.m.st.length : Int) + 1 := IntWalk.i64_in _ (by have := OK.out.len; omega)
 have xl2 : IntKind.u16.wrap ((s.m.st.length : Int) + 1) = (s.m.st.length : Int) + 1 := by rw [IntKind.wrap_u16]; have := OK.out.len; omega
 have HP := Lib.hid (fun V s' x (h : RM b0 W0 E B g s' V) hl => push_z h hl x)
 go_wp2_with fail
 refine (HP.out _ _ s.m.fp HR.out (by have := OK.out.len; omega)).mono ?_
 rintro e w ⟨rfl, hw⟩
 have HW := Lib.hid hw
 have HL9 : Hid ((rpush s s.m.fp).m.st.length ≤ 4096) := Lib.hid (rpush_len OK.out.len _)
 clear hw i0 i1 i2 i3 i4 i5 i6 c24 c17
 go_wp2_with fail
 go_loopw [6] (fun k_ wr => ∃ j : Nat, j ≤ n ∧ k_ = .int .i64 (j : Int) ∧ RM b0 W0 E B g (pushN (rpush s s.m.fp) j) wr) (fun k_ _ => n - (intOf k_).toNat)
 case atStart => exact ⟨0, by omega, rfl, HW.out⟩
 case round =>
  obtain ⟨j, hj, rfl, hrm⟩ := hrel
  have HRM := Lib.hid hrm
  obtain ⟨i0, i1, i2, i3, i4, i5, i6⟩ := HZ.out.at hrm.2
  clear hrm
  by_cases hlt : j < n
  ·have t0 : decide ((j : Int) < (n : Int)) = true := decide_eq_true (by omega)
   have t1 : decide (j < n) = true := decide_eq_true hlt
   have x9 : IntKind.i64.wrap ((j : Int) + 1) = (j : Int) + 1 := IntWalk.i64_in _ (by have := HNN.out; omega)
   have HLT := Lib.hid hlt
   clear hlt hj
   go_wp2_with fail
   refine (HP.out _ _ 0 HRM.out (Nat.le_trans (pushN_len HL9.out j) (by decide))).mono ?_
   rintro e w2 ⟨rfl, hw⟩
   have HW2 := Lib.hid hw
   clear hw i0 i1 i2 i3 i4 i5 i6
   go_wp2_with fail
   go_roundw
   case rel => exact ⟨j + 1, HLT.out, by go_num, HW2.out⟩
   case measure => have := HLT.out; simp only [intOf]; omega
  ·obtain rfl : j = n := by omega
   have t0 : decide ((j : Int) < (j : Int)) = false := decide_eq_false (by omega)
   have t1 : decide (j < j) = false := decide_eq_false (by omega)
   obtain ⟨u, y17⟩ : ∃ u, wr.cell? ⟨B, 17, none⟩ = some u := ⟨_, HRM.out.cell 17 (.int .u16 (pushN (rpush s s.m.fp) j).m.fp) (fun _ _ => rfl)⟩
   have z17 := HRM.out.frz 17
   clear hj hlt
   go_wp2_with fail
   exact ends (v := .tuple #[]) (by simp [results, Tryz.results29]) rfl ⟨rfl, _, HU.out.from (HRM.out.put (s' := { pushN (rpush s s.m.fp) j with m := { (pushN (rpush s s.m.fp) j).m with fp := (s.m.st.length : Int) + 1 } }) 17 _ rfl (fun _ _ => rfl) rfl rfl rfl), enter_ends K0.out OK.out.len j⟩
theorem leave_ends {s s1 : RSt} {k : Nat} {x : Int} (hk : s.m.fp = (k : Int)) (h1 : 1 ≤ k) (h2 : k ≤ s.m.st.length) (hs : (rpop { s with m := setSt s.m (s.m.st.take k) }).1 = s1) (hx : (rpop { s with m := setSt s.m (s.m.st.take k) }).2 = x) : EndsR s (leaveM s.m) { s1 with m := { s1.m with fp := x } } := by
 unfold EndsR leaveM
 rw [if_neg (by omega)]
 have hl : (s.m.st.take k).getLast? = some ((s.m.st[k - 1]?).getD 0) := by
  rw [List.getLast?_eq_getElem?, List.length_take, Nat.min_eq_left h2, List.getElem?_take_of_lt (by omega), List.getElem?_eq_getElem (by omega)]
  rfl
 unfold rpop at hs hx
 simp only [setSt, hl] at hs hx
 rw [← hs, ← hx, hk]
 have hd : (s.m.st.take k).dropLast = s.m.st.take (k - 1) := by
  rw [List.dropLast_eq_take, List.length_take, Nat.min_eq_left h2, List.take_take, Nat.min_eq_left (by omega)]
 simp [setSt, hd]
set_option maxRecDepth 20000 in
set_option maxHeartbeats 8000000 in
theorem st_leave (h : RM b0 U E B g s V) (ok : s.m.Ok) (k0 : s.k = 0) (d : Nat) (hd : d < 8) (si imm aux bank size : Int) (hi : OkU16 imm) : Calls Tryz.prog 29 #[.pointer (some ⟨B, 0, none⟩), .agg #[.int .i64 5, .int .i64 (d : Int), .int .i64 si, .int .u16 imm, .int .u16 aux, .int .i64 bank, .int .i64 size]] V (LeavesR b0 U E B g s (leaveM s.m)) := by
 obtain ⟨HZ, HR, HU⟩ := box_z h 5 d si imm aux bank size
 have OK := Lib.hid ok
 have K0 := Lib.hid k0
 have HD := Lib.hid hd
 have HI := Lib.hid hi
 have d0 : (0 : Int) ≤ (d : Int) := by omega
 have d1 : (d : Int) < 8 := by omega
 clear h ok k0 hd hi
 go_enter Tryz.func29, Tryz.ntmps29
 go_upto_region 1 with (fail)
 generalize V.alloc _ = W0 at *
 obtain ⟨q, hq⟩ : ∃ q, V.heap.size = q := ⟨_, rfl⟩
 rw [hq] at HZ ⊢
 clear hq
 obtain ⟨i0, i1, i2, i3, i4, i5, i6⟩ := HZ.out.at (Kz.refl b0 W0)
 obtain ⟨p, c, c24, hown⟩ := HR.out.stack
 obtain ⟨k, hk⟩ : ∃ k : Nat, s.m.fp = (k : Int) := ⟨s.m.fp.toNat, by have := OK.out.fp.1; omega⟩
 have hk6 : k < 65536 := by have := OK.out.fp.2; omega
 have HKK := Lib.hid hk
 have c17 := HR.out.cell 17 (.int .u16 (k : Int)) (fun _ _ => by rw [← hk]; rfl)
 have xk : IntKind.i64.wrap (k : Int) = (k : Int) := IntWalk.i64_in _ (by omega)
 have HC : Hid (∀ W, Below W0.heap.size W0 W → W.cell? ⟨B, 17, none⟩ = some (.int .u16 (k : Int)) ∧ W.cell? ⟨B, 24, none⟩ = some (.slice p s.m.st.length c) ∧ W.frozen? ⟨B, 24, none⟩ = false) := Lib.hid fun W hW => ⟨(hW.cell (p := ⟨B, 17, none⟩) HR.out.lt).trans c17, (hW.cell (p := ⟨B, 24, none⟩) HR.out.lt).trans c24, (HR.out.next hW).frz 24⟩
 have HO := Lib.hid hown
 have HP := Lib.hid (fun V s' (h : RM b0 W0 E B g s' V) hl => pop_z h hl)
 clear hk hown c17 c24
 go_upto_region 17 with (fail)
 clear i0 i1 i2 i3 i4 i5 i6
 by_cases hz : k = 0
 ·subst hz
  have HLT : Hid (True) := Lib.hid trivial
  refine wp_region_flow (S := fun W => Below W0.heap.size W0 W) (by kernel_rfl) (by kernel_rfl) (Below.drew (Below.refl _ _)) ?_
  iterate 20
   apply Flow.step
   ·intro V2 K hS hK
    obtain ⟨c17, c24, _⟩ := HC.out _ hS
    go_simp
    exact hK _ hS
   simp only [lQ]
  refine Flow.done ?_
  intro V2 hS
  have HB2 := Lib.hid hS
  clear hS
  go_wp2_with fail
  refine (fail_z (HR.out.next HB2.out) 5 0).mono ?_
  rintro e w ⟨rfl, hw⟩
  have HW := Lib.hid (HU.out.from hw)
  clear hw
  go_wp2_with fail
  refine ends (v := .tuple #[]) (by simp [results, Tryz.results29]) rfl ⟨rfl, _, HW.out, ?_⟩
  unfold EndsR leaveM
  rw [if_pos (by rw [HKK.out]; have := HLT.out; omega)]
  exact rfail_ends K0.out 5 0
 have b1 : ((k : Int) == 0) = false := by rw [beq_eq_false_iff_ne]; omega
 have b2 : (k == 0) = false := by simpa using hz
 by_cases hlt : s.m.st.length < k
 ·have d1' : decide ((s.m.st.length : Int) < (k : Int)) = true := decide_eq_true (by omega)
  have d2 : decide (s.m.st.length < k) = true := decide_eq_true hlt
  have HLT := Lib.hid hlt
  clear hlt hz
  refine wp_region_flow (S := fun W => Below W0.heap.size W0 W) (by kernel_rfl) (by kernel_rfl) (Below.drew (Below.refl _ _)) ?_
  iterate 20
   apply Flow.step
   ·intro V2 K hS hK
    obtain ⟨c17, c24, _⟩ := HC.out _ hS
    go_simp
    exact hK _ hS
   simp only [lQ]
  refine Flow.done ?_
  intro V2 hS
  have HB2 := Lib.hid hS
  clear hS
  go_wp2_with fail
  refine (fail_z (HR.out.next HB2.out) 5 0).mono ?_
  rintro e w ⟨rfl, hw⟩
  have HW := Lib.hid (HU.out.from hw)
  clear hw
  go_wp2_with fail
  refine ends (v := .tuple #[]) (by simp [results, Tryz.results29]) rfl ⟨rfl, _, HW.out, ?_⟩
  unfold EndsR leaveM
  rw [if_pos (by rw [HKK.out]; have := HLT.out; omega)]
  exact rfail_ends K0.out 5 0
 have d1' : decide ((s.m.st.length : Int) < (k : Int)) = false := decide_eq_false (by omega)
 have d2 : decide (s.m.st.length < k) = false := decide_eq_false hlt
 have hle : k ≤ s.m.st.length := by omega
 have hown := HO.out
 obtain ⟨q9, hp, hq9, _⟩ := (own_src hown).resolve_left (by omega)
 subst hp
 have hcap : s.m.st.length ≤ c := by
  rcases hown.2 with ⟨e, h0⟩ | ⟨q', cap, cur, e1, hb, hg, hnc, _⟩
  ·omega
  ·injection e1 with e1 e2 e3
   omega
 obtain ⟨l, hl⟩ : ∃ l, s.m.st.take k = l := ⟨_, rfl⟩
 have hll : l.length = k := by rw [← hl, List.length_take]; omega
 have hcut : W0.ownsRow b0 22 1 (.slice (some ⟨q9, 0, none⟩) k c) l.length (l.map (Value.int .u16)) := by
  have h1 := hown
  rw [← List.take_append_drop k s.m.st, hl, List.map_append] at h1
  rw [show (l ++ s.m.st.drop k).length = (l.map (Value.int .u16) ++ (s.m.st.drop k).map (Value.int .u16)).length by simp] at h1
  have h2 := own_cut h1 (by simp)
  rw [List.length_map] at h2
  rw [hll] at h2 ⊢
  exact h2
 have HCUT := Lib.hid hcut
 have HL := Lib.hid (And.intro hl hll)
 have HZ1 : Hid (1 ≤ k ∧ k ≤ s.m.st.length) := Lib.hid (by omega)
 have i0 : (0 : Int) ≤ (k : Int) := by omega
 have i1 : (k : Int) ≤ (c : Int) := by omega
 clear hz hlt hle hown hcap hcut hl hll hq9
 refine wp_region_flow (S := fun W => Below W0.heap.size W0 W) (by kernel_rfl) (by kernel_rfl) (Below.drew (Below.refl _ _)) ?_
 iterate 20
  apply Flow.step
  ·intro V2 K hS hK
   obtain ⟨c17, c24, _⟩ := HC.out _ hS
   go_simp
   exact hK _ hS
  simp only [lQ]
 refine Flow.done ?_
 intro V2 hS
 have HB2 := Lib.hid hS
 have HC2 : Hid (∀ W, Below V2.heap.size V2 W → W.cell? ⟨B, 17, none⟩ = some (.int .u16 (k : Int)) ∧ W.cell? ⟨B, 24, none⟩ = some (.slice (some ⟨q9, 0, none⟩) s.m.st.length c) ∧ W.frozen? ⟨B, 24, none⟩ = false) := Lib.hid fun W hW => HC.out W (below_next HB2.out hW)
 clear hS
 go_upto_region 19 with (fail)
 refine' wp_region_flowR [[], [], [(101, 1)], [(102, 2)], [(103, 3)], [], [(105, 5)], [(106, 6)], [(107, 7)], [(108, 8)], [(104, 4), (109, 9)], [(100, 0)], [(111, 11)], [(100, 0), (101, 1), (102, 2), (103, 3), (104, 4), (105, 5), (106, 6), (107, 7), (108, 8), (109, 9), (110, 10), (111, 11), (112, 12)]] (relL [eqV _, eqV _, eqV _, eqV _, eqV _, eqV _, eqV _, eqV _, eqV _, eqV _, eqV _, eqV _, eqV _]) (by kernel_rfl) (by kernel_rfl) ?_
 rotate_left 13
 iterate 13
  refine FlowR.step ?_ ?_
  ·intro V hV
   simp only [Dep, lQ]
   repeat rintro _ ⟨_, rfl, _⟩
   intro K hK
   obtain ⟨c17, c24, z24⟩ := HC2.out _ hV
   go_simp
   refine hK _ _ ?_ (Below.refl _ _)
   simp only [lR]
   exact rfl
 refine FlowR.last ?_
 intro V hV
 simp only [Dep, lQ]
 repeat rintro _ ⟨_, rfl, _⟩
 intro K hK
 obtain ⟨c17, c24, z24⟩ := HC2.out _ hV
 go_simp
 refine hK _ _ ?_
 have hb := below_next HB2.out hV
 generalize eA : World.setCell _ _ _ = WA
 have HQ := Lib.hid ((HR.out.next hb).putSt (l := l) eA (own_next HCUT.out hb))
 clear hK hb hV c17 c24 z24 eA
 go_wp2_with fail
 refine (HP.out _ _ HQ.out (by show l.length ≤ 5000; have := HL.out.2; have := OK.out.len; have := HZ1.out; omega)).mono ?_
 obtain ⟨s1, hs1⟩ : ∃ s1, (rpop { s with m := setSt s.m l }).1 = s1 := ⟨_, rfl⟩
 obtain ⟨x, hx⟩ : ∃ x, (rpop { s with m := setSt s.m l }).2 = x := ⟨_, rfl⟩
 rw [hs1, hx]
 have HS1 := Lib.hid hs1
 have HX := Lib.hid hx
 clear hs1 hx
 rintro e w ⟨rfl, hw⟩
 have HW := Lib.hid hw
 obtain ⟨u, y17⟩ : ∃ u, w.cell? ⟨B, 17, none⟩ = some u := ⟨_, hw.cell 17 (.int .u16 s1.m.fp) (fun _ _ => rfl)⟩
 have z17 := hw.frz 17
 clear hw
 go_wp2_with fail
 refine ends (v := .tuple #[]) (by simp [results, Tryz.results29]) rfl ⟨rfl, _, HU.out.from (HW.out.put (s' := { s1 with m := { s1.m with fp := x } }) 17 _ rfl (fun _ _ => rfl) rfl rfl rfl), ?_⟩
 exact leave_ends HKK.out HZ1.out.1 HZ1.out.2 (by rw [HL.out.1]; exact HS1.out) (by rw [HL.out.1]; exact HX.out)
end Go.Proofs.YtieaicdihingkaaGreat
