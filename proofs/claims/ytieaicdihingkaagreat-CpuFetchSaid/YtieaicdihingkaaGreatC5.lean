/- What isa.read keeps in memory. -/
import Derived.Test.YtieaicdihingkaaGreatC1
import Derived.Test.YtieaicdihingkaaGreatRR
import Derived.Laws.EntriesVeiled
namespace Go.Proofs.YtieaicdihingkaaGreat
set_option linter.unusedVariables false
set_option linter.unusedSimpArgs false
open Go.RowKit
structure InsI where
 op : Int
 d : Int
 s : Int
 imm : Int
 aux : Int
 bank : Int
 size : Int
def InsI.cells (i : InsI) : List Value := [.int .i64 i.op, .int .i64 i.d, .int .i64 i.s, .int .u16 i.imm, .int .u16 i.aux, .int .i64 i.bank, .int .i64 i.size]
structure RdM (w : World) (t : ByteArray) (f0 f1 f2 f3 : Int) (N A C : Nat) (V : World) (n : Nat) (i : InsI) : Prop where
 str : V.cell? ⟨w.heap.size, 0, none⟩ = some (.string t)
 res : V.heap[w.heap.size + 2]? = some (.cells #[.int .i64 0, .int .i64 0, .int .i64 0, .int .u16 0, .int .u16 0, .int .i64 0, .int .i64 0] 68 (0, 0))
 ins : ∀ k u, i.cells[k]? = some u → V.cell? ⟨N, k, none⟩ = some u
 insF : ∀ k, V.frozen? ⟨N, k, none⟩ = false
 at' : V.cell? ⟨A, 0, none⟩ = some (.int .i64 (n : Int))
 atF : V.frozen? ⟨A, 0, none⟩ = false
 fn : V.cell? ⟨C, 0, none⟩ = some (.func (.func 87) #[] #[.pointer (some ⟨A, 0, none⟩), .pointer (some ⟨w.heap.size, 0, none⟩)])
 lt0 : w.heap.size + 2 < N
 lt1 : N < A
 lt2 : A < C
 lt3 : C < V.heap.size
 below : Below w.heap.size w V
theorem RdM.setAt {w V : World} {t : ByteArray} {f0 f1 f2 f3 : Int} {N A C n : Nat} {i : InsI} (h : RdM w t f0 f1 f2 f3 N A C V n i) (m : Nat) (v : Int) (hv : v = (m : Int)) : RdM w t f0 f1 f2 f3 N A C (V.setCell ⟨A, 0, none⟩ (.int .i64 v)) m i := by
 subst hv
 obtain ⟨a, b, c, d, e, f, g, l0, l1, l2, l3, hb⟩ := h
 have o : ∀ (X k : Nat), X ≠ A → (V.setCell ⟨A, 0, none⟩ (.int .i64 (m : Int))).cell? ⟨X, k, none⟩ = V.cell? ⟨X, k, none⟩ := fun X k hX => World.cell?_setCell_other _ _ _ _ (by intro e; injection e with e1; exact hX e1.symm)
 refine ⟨(o _ _ (by omega)).trans a, (Below.heap_setCell _ _ _ _ (by simp; omega)).trans b, fun k u hk => (o _ _ (by omega)).trans (c k u hk), fun k => (frozen_set' _ _ _ _).trans (d k), World.cell?_setCell_same _ _ _ e, (frozen_set' _ _ _ _).trans f, (o _ _ (by omega)).trans g, l0, l1, l2, by simpa using l3, hb.setCell (by simp; omega) _⟩
theorem RdM.setIns {w V : World} {t : ByteArray} {f0 f1 f2 f3 : Int} {N A C n : Nat} {i j : InsI} (h : RdM w t f0 f1 f2 f3 N A C V n i) (k : Nat) (v : Value) (hk : k < 7) (hj : j.cells = i.cells.set k v) : RdM w t f0 f1 f2 f3 N A C (V.setCell ⟨N, k, none⟩ v) n j := by
 obtain ⟨a, b, c, d, e, f, g, l0, l1, l2, l3, hb⟩ := h
 have o : ∀ (X q : Nat), X ≠ N → (V.setCell ⟨N, k, none⟩ v).cell? ⟨X, q, none⟩ = V.cell? ⟨X, q, none⟩ := fun X q hX => World.cell?_setCell_other _ _ _ _ (by intro e; injection e with e1; exact hX e1.symm)
 have hl : i.cells.length = 7 := rfl
 refine ⟨(o _ _ (by omega)).trans a, (Below.heap_setCell _ _ _ _ (by simp; omega)).trans b, fun q u hq => ?_, fun q => (frozen_set' _ _ _ _).trans (d q), (o _ _ (by omega)).trans e, (frozen_set' _ _ _ _).trans f, (o _ _ (by omega)).trans g, l0, l1, l2, by simpa using l3, hb.setCell (by simp; omega) _⟩
 rw [hj] at hq
 by_cases e : q = k
 ·subst e
  rw [List.getElem?_set_self (by omega)] at hq
  simp only [Option.some.injEq] at hq
  subst hq
  exact World.cell?_setCell_same _ _ _ (c q _ (List.getElem?_eq_getElem (by omega)))
 ·rw [List.getElem?_set_ne (fun h => e h.symm)] at hq
  exact (World.cell?_setCell_other _ _ _ _ (by intro e2; injection e2 with _ e3; exact e e3.symm)).trans (c q u hq)
end Go.Proofs.YtieaicdihingkaaGreat
namespace Go.Proofs.YtieaicdihingkaaGreat
set_option linter.unusedVariables false
set_option linter.unusedSimpArgs false
open Go.RowKit
def wordI (t : ByteArray) (n : Nat) : Int := byteI t n + byteI t (n + 1) * 256
/-- One field. -/
def rdStep (t : ByteArray) (f : Int) (n : Nat) (i : InsI) : InsI :=
 if f = 1 then { i with d := byteI t n / 16, s := byteI t n % 16 }
 else if f = 2 then { i with d := byteI t n }
 else if f = 3 then { i with s := byteI t n }
 else if f = 4 then { i with imm := byteI t n }
 else if f = 5 then { i with imm := extI (byteI t n) }
 else if f = 6 then { i with imm := wordI t n }
 else if f = 7 then { i with aux := wordI t n }
 else if f = 8 ∨ f = 9 then { i with bank := byteI t n }
 else i
/-- The fields from the place n on. -/
def rdAll (t : ByteArray) : List Int → Nat → InsI → InsI
 | [], _, i => i
 | f :: l, n, i => rdAll t l (n + (widthI f).toNat) (rdStep t f n i)
def readI (t : ByteArray) (l : List Int) : InsI := rdAll t l 1 ⟨byteI t 0, 0, 0, 0, 0, 0, sizeI (byteI t 0)⟩
theorem wsum_bd (l : List Int) (k : Nat) : 0 ≤ wsum l k := by
 unfold wsum
 generalize l.take k = m
 induction m with
 | nil => simp
 | cons x m ih => have := widthI_bd x; simp at ih ⊢; omega
theorem idx4 (f0 f1 f2 f3 : Int) : ∀ k : Nat, k < 4 → ∃ f, [f0, f1, f2, f3][k]? = some f ∧ ∀ w, (Instr.index 98 (.agg #[.int .i64 f0, .int .i64 f1, .int .i64 f2, .int .i64 f3]) (.int .i64 (k : Int))).run Tryz.prog w = .ok (.int .i64 f) w
 | 0, _ => ⟨_, rfl, fun _ => by kernel_rfl⟩
 | 1, _ => ⟨_, rfl, fun _ => by kernel_rfl⟩
 | 2, _ => ⟨_, rfl, fun _ => by kernel_rfl⟩
 | 3, _ => ⟨_, rfl, fun _ => by kernel_rfl⟩
 | n + 4, h => by omega
theorem rdAll_step (t : ByteArray) (l : List Int) (k n : Nat) (f : Int) (i : InsI) (h : l[k]? = some f) : rdAll t (l.drop k) n i = rdAll t (l.drop (k + 1)) (n + (widthI f).toNat) (rdStep t f n i) := by
 obtain ⟨hk, e⟩ := List.getElem?_eq_some_iff.1 h
 rw [List.drop_eq_getElem_cons hk, e]; rfl
theorem wsum_step (l : List Int) (k : Nat) (f : Int) (h : l[k]? = some f) : wsum l (k + 1) = wsum l k + widthI f := by
 obtain ⟨hk, e⟩ := List.getElem?_eq_some_iff.1 h
 unfold wsum
 rw [List.take_succ_eq_append_getElem hk, e]
 simp
theorem wsum_le (l : List Int) (j : Nat) : ∀ k, wsum l k ≤ wsum l (k + j) := by
 induction j with
 | zero => intro k; exact Int.le_refl _
 | succ j ih =>
  intro k
  have h := ih k
  by_cases hk : k + j < l.length
  ·have := wsum_step l (k + j) l[k + j] (List.getElem?_eq_getElem hk)
   have hb := widthI_bd l[k + j]
   rw [Nat.add_succ]; show _ ≤ wsum l (k + j + 1); omega
  ·have : wsum l (k + (j + 1)) = wsum l (k + j) := by unfold wsum; rw [List.take_of_length_le (by omega), List.take_of_length_le (by omega)]
   omega
set_option maxRecDepth 8000 in
set_option maxHeartbeats 8000000 in
theorem read_any (t : ByteArray) (f0 f1 f2 f3 : Int) (w : World) (hf : ∀ f ∈ [f0, f1, f2, f3], 0 ≤ f ∧ f ≤ 9) (hz : 1 + wsum [f0, f1, f2, f3] 4 ≤ t.size) (hm : t.size ≤ 9223372036854775806) :
  Calls Tryz.prog 64 #[.string t, .agg #[.int .i64 f0, .int .i64 f1, .int .i64 f2, .int .i64 f3]] w fun e w' => e = .returned (.agg (readI t [f0, f1, f2, f3]).cells.toArray) ∧ Below w.heap.size w w' := by
 have hz1 : 0 < t.size := by have := wsum_bd [f0, f1, f2, f3] 4; omega
 have hb0 := byteI_bd t 0
 have hx := byteI_at t 0 hz1
 have KM := Lib.hid hm
 have KZ := Lib.hid hz
 have KF := Lib.hid hf
 clear hm hz hf
 have hi : (0 : Int) < (t.size : Int) := by omega
 have hw : IntKind.i64.wrap (byteI t 0) = byteI t 0 := IntWalk.i64_in _ (by omega)
 go_enter Tryz.func64, Tryz.ntmps64
 go_wp2_with fail
 have KW : Hid (∀ V, Below (((w.alloc (Obj.cells #[.string t] 9)).alloc (Obj.cells #[.int .i64 f0, .int .i64 f1, .int .i64 f2, .int .i64 f3] 98)).alloc (Obj.cells #[Value.int IntKind.i64 0, Value.int IntKind.i64 0, Value.int IntKind.i64 0, Value.int IntKind.u16 0, Value.int IntKind.u16 0, Value.int IntKind.i64 0, Value.int IntKind.i64 0] 68)).heap.size (((w.alloc (Obj.cells #[.string t] 9)).alloc (Obj.cells #[.int .i64 f0, .int .i64 f1, .int .i64 f2, .int .i64 f3] 98)).alloc (Obj.cells #[Value.int IntKind.i64 0, Value.int IntKind.i64 0, Value.int IntKind.i64 0, Value.int IntKind.u16 0, Value.int IntKind.u16 0, Value.int IntKind.i64 0, Value.int IntKind.i64 0] 68)) V → V.cell? ⟨w.heap.size, 0, none⟩ = some (.string t) ∧ V.heap[w.heap.size + 1]? = some (.cells #[.int .i64 f0, .int .i64 f1, .int .i64 f2, .int .i64 f3] 98 (0, 0)) ∧ V.heap[w.heap.size + 2]? = some (.cells #[Value.int IntKind.i64 0, Value.int IntKind.i64 0, Value.int IntKind.i64 0, Value.int IntKind.u16 0, Value.int IntKind.u16 0, Value.int IntKind.i64 0, Value.int IntKind.i64 0] 68 (0, 0)) ∧ Below w.heap.size w V) := Lib.hid fun V hV => by
  have hb := below_alloc (below_alloc (below1 w (Obj.cells #[.string t] 9)) (Obj.cells #[.int .i64 f0, .int .i64 f1, .int .i64 f2, .int .i64 f3] 98)) (Obj.cells #[Value.int IntKind.i64 0, Value.int IntKind.i64 0, Value.int IntKind.i64 0, Value.int IntKind.u16 0, Value.int IntKind.u16 0, Value.int IntKind.i64 0, Value.int IntKind.i64 0] 68)
  refine ⟨(hV.cell (p := ⟨w.heap.size, 0, none⟩) (by simp; omega)).trans (by simp [go_sem]), (hV.block _ (by simp)).trans ?_, (hV.block _ (by simp)).trans ?_, below_next hb hV⟩
  ·have e := alloc_at (w.alloc (Obj.cells #[.string t] 9)) (Obj.cells #[.int .i64 f0, .int .i64 f1, .int .i64 f2, .int .i64 f3] 98)
   rw [Below.heap_alloc _ _ _ (by simp)]
   simpa using e
  ·have e := alloc_at ((w.alloc (Obj.cells #[.string t] 9)).alloc (Obj.cells #[.int .i64 f0, .int .i64 f1, .int .i64 f2, .int .i64 f3] 98)) (Obj.cells #[Value.int IntKind.i64 0, Value.int IntKind.i64 0, Value.int IntKind.i64 0, Value.int IntKind.u16 0, Value.int IntKind.u16 0, Value.int IntKind.i64 0, Value.int IntKind.i64 0] 68)
   simpa using e
 have hs0 : w.heap.size + 3 = (((w.alloc (Obj.cells #[.string t] 9)).alloc (Obj.cells #[.int .i64 f0, .int .i64 f1, .int .i64 f2, .int .i64 f3] 98)).alloc (Obj.cells #[Value.int IntKind.i64 0, Value.int IntKind.i64 0, Value.int IntKind.i64 0, Value.int IntKind.u16 0, Value.int IntKind.u16 0, Value.int IntKind.i64 0, Value.int IntKind.i64 0] 68)).heap.size := by simp
 have KS0 := Lib.hid hs0
 clear hs0
 generalize (((w.alloc (Obj.cells #[.string t] 9)).alloc (Obj.cells #[.int .i64 f0, .int .i64 f1, .int .i64 f2, .int .i64 f3] 98)).alloc (Obj.cells #[Value.int IntKind.i64 0, Value.int IntKind.i64 0, Value.int IntKind.i64 0, Value.int IntKind.u16 0, Value.int IntKind.u16 0, Value.int IntKind.i64 0, Value.int IntKind.i64 0] 68)) = W0 at *
 refine' wp_region_flowR [[], [(12, 0)], [(13, 1)], [], [(15, 3)], [(16, 4)], [(14, 2), (17, 5)], [], [(12, 0), (13, 1), (14, 2), (15, 3), (16, 4), (17, 5), (18, 6), (5, 7)]] (relL [eqV _, eqV _, eqV _, eqV _, eqV _, eqV _, eqV _, ptrTo (Obj.cells #[Value.int IntKind.i64 0, Value.int IntKind.i64 0, Value.int IntKind.i64 0, Value.int IntKind.u16 0, Value.int IntKind.u16 0, Value.int IntKind.i64 0, Value.int IntKind.i64 0] 68) W0, fun v V => True]) (by kernel_rfl) (by kernel_rfl) ?_
 rotate_left 7
 refine FlowR.step ?_ ?_
 ·intro V hV
  simp only [Dep, lQ]
  intro K hK
  have c0 := (KW.out V hV).1
  go_simp
  refine hK _ _ ?_ (Below.refl _ _)
  simp only [lR]
  exact rfl
 refine FlowR.step ?_ ?_
 ·intro V hV
  simp only [Dep, lQ]
  rintro x12 ⟨V12, rfl, hb12⟩
  intro K hK
  go_simp
  refine hK _ _ ?_ (Below.refl _ _)
  simp only [lR]
  exact rfl
 refine FlowR.step ?_ ?_
 ·intro V hV
  simp only [Dep, lQ]
  rintro x13 ⟨V13, rfl, hb13⟩
  intro K hK
  go_simp
  refine hK _ _ ?_ (Below.refl _ _)
  simp only [lR]
  exact rfl
 refine FlowR.step ?_ ?_
 ·intro V hV
  simp only [Dep, lQ]
  intro K hK
  have c0 := (KW.out V hV).1
  go_simp
  refine hK _ _ ?_ (Below.refl _ _)
  simp only [lR]
  exact rfl
 refine FlowR.step ?_ ?_
 ·intro V hV
  simp only [Dep, lQ]
  rintro x15 ⟨V15, rfl, hb15⟩
  intro K hK
  go_simp
  refine hK _ _ ?_ (Below.refl _ _)
  simp only [lR]
  exact rfl
 refine FlowR.step ?_ ?_
 ·intro V hV
  simp only [Dep, lQ]
  rintro x16 ⟨V16, rfl, hb16⟩
  intro K hK
  go_simp
  go_at_call 36
  refine (size_any (byteI t 0) V hb0.1 hb0.2).mono ?_
  rintro e w9 ⟨rfl, h9⟩
  refine hK _ _ ?_ h9
  simp only [lR]
  exact rfl
 refine FlowR.step ?_ ?_
 ·intro V hV
  simp only [Dep, lQ]
  rintro x14 ⟨V14, rfl, hb14⟩
  rintro x17 ⟨V17, rfl, hb17⟩
  intro K hK
  go_simp
  refine hK _ _ ?_ (Below.refl _ _)
  simp only [lR]
  exact rfl
 refine FlowR.step ?_ ?_
 ·intro V hV
  simp only [Dep, lQ]
  intro K hK
  go_simp
  exact hK _ _ (ptr_at hV) (below1 _ _)
 refine FlowR.last ?_
 intro V hV
 simp only [Dep, lQ]
 rintro x12 ⟨V12, rfl, hb12⟩
 rintro x13 ⟨V13, rfl, hb13⟩
 rintro x14 ⟨V14, rfl, hb14⟩
 rintro x15 ⟨V15, rfl, hb15⟩
 rintro x16 ⟨V16, rfl, hb16⟩
 rintro x17 ⟨V17, rfl, hb17⟩
 rintro x18 ⟨V18, rfl, hb18⟩
 rintro x5 ⟨V5, ⟨W9, rfl, rfl, hW9⟩, hb5⟩
 intro K hK
 obtain ⟨z0, g0⟩ := made_cells hb5 0 _ rfl
 obtain ⟨z1, g1⟩ := made_cells hb5 1 _ rfl
 obtain ⟨z2, g2⟩ := made_cells hb5 2 _ rfl
 obtain ⟨z3, g3⟩ := made_cells hb5 3 _ rfl
 obtain ⟨z4, g4⟩ := made_cells hb5 4 _ rfl
 obtain ⟨z5, g5⟩ := made_cells hb5 5 _ rfl
 obtain ⟨z6, g6⟩ := made_cells hb5 6 _ rfl
 obtain ⟨hB2, hC2⟩ := stored hb5 hW9 [.int .i64 (byteI t 0), .int .i64 0, .int .i64 0, .int .u16 0, .int .u16 0, .int .i64 0, .int .i64 (sizeI (byteI t 0))] rfl
 simp only [setAll] at hB2 hC2
 go_simp
 refine hK _ _ ?_
 clear hK K z0 g0 z1 g1 z2 g2 z3 g3 z4 g4 z5 g5 z6 g6
 have HW9 := Lib.hid hW9.size
 have HFr : Hid (∀ j, (setAll W9.heap.size [.int .i64 (byteI t 0), .int .i64 0, .int .i64 0, .int .u16 0, .int .u16 0, .int .i64 0, .int .i64 (sizeI (byteI t 0))] 0 V).frozen? ⟨W9.heap.size, j, none⟩ = false) := Lib.hid fun j => by
  simp only [setAll]
  rw [frozen_set', frozen_set', frozen_set', frozen_set', frozen_set', frozen_set', frozen_set', hb5.frozen (p := ⟨W9.heap.size, j, none⟩) (by simp)]; simp [go_sem]
 have HSZ : Hid (W9.heap.size < (setAll W9.heap.size [.int .i64 (byteI t 0), .int .i64 0, .int .i64 0, .int .u16 0, .int .u16 0, .int .i64 0, .int .i64 (sizeI (byteI t 0))] 0 V).heap.size) := Lib.hid (by rw [setAll_size]; have := hb5.size; simp at this; omega)
 simp only [setAll] at HFr HSZ
 have HC2 := Lib.hid hC2
 have HB2 := Lib.hid hB2
 clear hC2 hB2 hW9 hb5 hV hb12 V12 hb13 V13 hb14 V14 hb15 V15 hb16 V16 hb17 V17 hb18 V18
 generalize (((((((V.setCell ⟨W9.heap.size, 0, none⟩ (.int .i64 (byteI t 0))).setCell ⟨W9.heap.size, 1, none⟩ (.int .i64 0)).setCell ⟨W9.heap.size, 2, none⟩ (.int .i64 0)).setCell ⟨W9.heap.size, 3, none⟩ (.int .u16 0)).setCell ⟨W9.heap.size, 4, none⟩ (.int .u16 0)).setCell ⟨W9.heap.size, 5, none⟩ (.int .i64 0)).setCell ⟨W9.heap.size, 6, none⟩ (.int .i64 (sizeI (byteI t 0)))) = W3 at *
 generalize hN : W9.heap.size = N at *
 clear hN hx hi hw
 go_upto_region 5 with (fail)
 have hb2 : Below W3.heap.size W3 ((W3.alloc (Obj.cells #[.int .i64 1] 3)).alloc (Obj.cells #[(.func (.func 87) #[] #[.pointer (some ⟨W3.heap.size, 0, none⟩), .pointer (some ⟨w.heap.size, 0, none⟩)])] 119)) := below_alloc (below1 _ _) _
 obtain ⟨c1, c2, c3, c4⟩ := KW.out _ HB2.out
 have s0 := KS0.out
 have s1 := HW9.out
 have s2 := HSZ.out
 have hM : RdM w t f0 f1 f2 f3 N W3.heap.size (W3.heap.size + 1) ((W3.alloc (Obj.cells #[.int .i64 1] 3)).alloc (Obj.cells #[(.func (.func 87) #[] #[.pointer (some ⟨W3.heap.size, 0, none⟩), .pointer (some ⟨w.heap.size, 0, none⟩)])] 119)) 1 ⟨byteI t 0, 0, 0, 0, 0, 0, sizeI (byteI t 0)⟩ := by
  refine ⟨(hb2.cell (p := ⟨w.heap.size, 0, none⟩) (by show w.heap.size < _; omega)).trans c1, (hb2.block _ (by omega)).trans c3, fun k u hk => (hb2.cell (p := ⟨N, k, none⟩) s2).trans (HC2.out _ (Below.refl _ _) k u hk), fun k => (hb2.frozen (p := ⟨N, k, none⟩) s2).trans (HFr.out k), ?_, ?_, ?_, by omega, s2, by omega, by simp, below_next c4 hb2⟩
  ·exact ((below1 (W3.alloc (Obj.cells #[.int .i64 1] 3)) _).cell (p := ⟨W3.heap.size, 0, none⟩) (by simp)).trans (Lib.cell_of_heap (alloc_at W3 _) 0)
  ·exact ((below1 (W3.alloc (Obj.cells #[.int .i64 1] 3)) _).frozen (p := ⟨W3.heap.size, 0, none⟩) (by simp)).trans (by simp [go_sem])
  ·simp
 have c2U := (hb2.block _ (by omega)).trans c2
 have KMM := Lib.hid hM
 clear hM hb2 c1 c2 c3 c4 s0 s1 s2 HC2 HB2 HFr HSZ HW9 KS0 KW
 generalize hA : W3.heap.size = A at *
 clear hA
 generalize ((W3.alloc (Obj.cells #[.int .i64 1] 3)).alloc (Obj.cells #[.func (.func 87) #[] #[.pointer (some ⟨A, 0, none⟩), .pointer (some ⟨w.heap.size, 0, none⟩)]] 119)) = U at *
 have e0 := Lib.cell_of_heap c2U 0
 have e1 := Lib.cell_of_heap c2U 1
 have e2 := Lib.cell_of_heap c2U 2
 have e3 := Lib.cell_of_heap c2U 3
 clear c2U
 simp at e0 e1 e2 e3
 go_wp2_with fail
 clear e0 e1 e2 e3
 go_loopw [22] (fun i wr => ∃ (k n : Nat) (j : InsI), k ≤ 4 ∧ i = .int .i64 k ∧ (n : Int) = 1 + wsum [f0, f1, f2, f3] k ∧ RdM w t f0 f1 f2 f3 N A (A + 1) wr n j ∧ readI t [f0, f1, f2, f3] = rdAll t ([f0, f1, f2, f3].drop k) n j) (fun i _ => 4 - (intOf i).toNat)
 case atStart => exact ⟨0, 1, _, by omega, rfl, rfl, KMM.out, rfl⟩
 case round =>
  clear KMM
  obtain ⟨k, n, j, hk, rfl, hn, hm, hr⟩ := hrel
  have KM2 := Lib.hid hm
  have KR := Lib.hid hr
  have KN := Lib.hid hn
  clear hm hr hn
  by_cases hlt : k < 4
  ·have hb0 : decide ((k : Int) < 4) = true := decide_eq_true (by omega)
   obtain ⟨f, hfk, hidx⟩ := idx4 f0 f1 f2 f3 k hlt
   have hidx := hidx wr
   have hst := KR.out.trans (rdAll_step t [f0, f1, f2, f3] k n f j hfk)
   have hws := wsum_step [f0, f1, f2, f3] k f hfk
   have hle := wsum_le [f0, f1, f2, f3] (3 - k) (k + 1)
   rw [show k + 1 + (3 - k) = 4 by omega] at hle
   have hrg := KF.out f (List.mem_of_getElem? hfk)
   have hroom : (n : Int) + widthI f ≤ t.size := by have := KZ.out; have := KN.out; omega
   have hnn : ((n + (widthI f).toNat : Nat) : Int) = 1 + wsum [f0, f1, f2, f3] (k + 1) := by have := KN.out; have := (widthI_bd f).1; omega
   have KRO := Lib.hid hroom
   have KNN := Lib.hid hnn
   have KST := Lib.hid hst
   clear hroom hnn hst hws hle hfk
   have x1 : IntKind.i64.wrap ((k : Int) + 1) = (k : Int) + 1 := IntWalk.i64_in _ (by omega)
   obtain ⟨f9, f10⟩ := hrg
   go_upto_region 8 with (fail)
   clear hidx hb0
   rcases (show f = 0 ∨ f = 1 ∨ f = 2 ∨ f = 3 ∨ f = 4 ∨ f = 5 ∨ f = 6 ∨ f = 7 ∨ f = 8 ∨ f = 9 by omega) with rfl | rfl | rfl | rfl | rfl | rfl | rfl | rfl | rfl | rfl
   ·go_wp2_with fail
    go_roundw
    case rel => exact ⟨k + 1, n, _, by omega, by go_num, by have := KNN.out; simpa [widthI] using this, KM2.out, by have := KST.out; simpa [widthI, rdStep] using this⟩
    case measure => simp [intOf]; omega
   ·have hsz : n < t.size := by have := KRO.out; simp [widthI] at this; omega
    have hcf := KM2.out.fn
    go_wp2_with fail
    clear hcf
    refine (next_any ⟨A, 0, none⟩ ⟨w.heap.size, 0, none⟩ n t _ KM2.out.at' KM2.out.atF KM2.out.str hsz KM.out).mono ?_
    rintro e w2 ⟨rfl, rfl⟩
    have KM3 := Lib.hid (KM2.out.setAt (n + 1) ((n : Int) + 1) (by push_cast; rfl))
    generalize wr.setCell ⟨A, 0, none⟩ (.int .i64 ((n : Int) + 1)) = W2 at *
    have hbb := byteI_bd t n
    obtain ⟨g0, g1⟩ := hbb
    have KBX : Hid (byteI t n = byteI t n) := Lib.hid rfl
    have q1 := KM3.out.ins 1 _ rfl
    have z1 := KM3.out.insF 1
    have q2 := KM3.out.ins 2 _ rfl
    have z2 := KM3.out.insF 2
    have hne : (⟨N, 2, none⟩ : Addr) ≠ ⟨N, 1, none⟩ := by simp
    go_wp2_with fail
    go_roundw
    case rel => exact ⟨k + 1, n + 1, _, by omega, by go_num, by have := KNN.out; simpa [widthI] using this, (KM3.out.setIns (j := { j with d := byteI t n / 16 }) 1 _ (by decide) rfl).setIns (j := { j with d := byteI t n / 16, s := byteI t n % 16 }) 2 _ (by decide) rfl, by have := KST.out; simpa [widthI, rdStep] using this⟩
    case measure => simp [intOf]; omega
   ·have hsz : n < t.size := by have := KRO.out; simp [widthI] at this; omega
    have hcf := KM2.out.fn
    go_wp2_with fail
    clear hcf
    refine (next_any ⟨A, 0, none⟩ ⟨w.heap.size, 0, none⟩ n t _ KM2.out.at' KM2.out.atF KM2.out.str hsz KM.out).mono ?_
    rintro e w2 ⟨rfl, rfl⟩
    have KM3 := Lib.hid (KM2.out.setAt (n + 1) ((n : Int) + 1) (by push_cast; rfl))
    generalize wr.setCell ⟨A, 0, none⟩ (.int .i64 ((n : Int) + 1)) = W2 at *
    have hbb := byteI_bd t n
    obtain ⟨g0, g1⟩ := hbb
    have hv : IntKind.i64.wrap (byteI t n) = byteI t n := IntWalk.i64_in _ (by omega)
    have q1 := KM3.out.ins 1 _ rfl
    have z1 := KM3.out.insF 1
    go_wp2_with fail
    go_roundw
    case rel => exact ⟨k + 1, n + 1, _, by omega, by go_num, by have := KNN.out; simpa [widthI] using this, KM3.out.setIns (j := { j with d := byteI t n }) 1 _ (by decide) rfl, by have := KST.out; simpa [widthI, rdStep] using this⟩
    case measure => simp [intOf]; omega
   ·have hsz : n < t.size := by have := KRO.out; simp [widthI] at this; omega
    have hcf := KM2.out.fn
    go_wp2_with fail
    clear hcf
    refine (next_any ⟨A, 0, none⟩ ⟨w.heap.size, 0, none⟩ n t _ KM2.out.at' KM2.out.atF KM2.out.str hsz KM.out).mono ?_
    rintro e w2 ⟨rfl, rfl⟩
    have KM3 := Lib.hid (KM2.out.setAt (n + 1) ((n : Int) + 1) (by push_cast; rfl))
    generalize wr.setCell ⟨A, 0, none⟩ (.int .i64 ((n : Int) + 1)) = W2 at *
    have hbb := byteI_bd t n
    obtain ⟨g0, g1⟩ := hbb
    have hv : IntKind.i64.wrap (byteI t n) = byteI t n := IntWalk.i64_in _ (by omega)
    have q2 := KM3.out.ins 2 _ rfl
    have z2 := KM3.out.insF 2
    go_wp2_with fail
    go_roundw
    case rel => exact ⟨k + 1, n + 1, _, by omega, by go_num, by have := KNN.out; simpa [widthI] using this, KM3.out.setIns (j := { j with s := byteI t n }) 2 _ (by decide) rfl, by have := KST.out; simpa [widthI, rdStep] using this⟩
    case measure => simp [intOf]; omega
   ·have hsz : n < t.size := by have := KRO.out; simp [widthI] at this; omega
    have hcf := KM2.out.fn
    go_wp2_with fail
    clear hcf
    refine (next_any ⟨A, 0, none⟩ ⟨w.heap.size, 0, none⟩ n t _ KM2.out.at' KM2.out.atF KM2.out.str hsz KM.out).mono ?_
    rintro e w2 ⟨rfl, rfl⟩
    have KM3 := Lib.hid (KM2.out.setAt (n + 1) ((n : Int) + 1) (by push_cast; rfl))
    generalize wr.setCell ⟨A, 0, none⟩ (.int .i64 ((n : Int) + 1)) = W2 at *
    have hbb := byteI_bd t n
    obtain ⟨g0, g1⟩ := hbb
    have hv : IntKind.u16.wrap (byteI t n) = byteI t n := by rw [IntKind.wrap_u16]; omega
    have q3 := KM3.out.ins 3 _ rfl
    have z3 := KM3.out.insF 3
    go_wp2_with fail
    go_roundw
    case rel => exact ⟨k + 1, n + 1, _, by omega, by go_num, by have := KNN.out; simpa [widthI] using this, KM3.out.setIns (j := { j with imm := byteI t n }) 3 _ (by decide) rfl, by have := KST.out; simpa [widthI, rdStep] using this⟩
    case measure => simp [intOf]; omega
   ·have hsz : n < t.size := by have := KRO.out; simp [widthI] at this; omega
    have hcf := KM2.out.fn
    go_wp2_with fail
    clear hcf
    refine (next_any ⟨A, 0, none⟩ ⟨w.heap.size, 0, none⟩ n t _ KM2.out.at' KM2.out.atF KM2.out.str hsz KM.out).mono ?_
    rintro e w2 ⟨rfl, rfl⟩
    have KM3 := Lib.hid (KM2.out.setAt (n + 1) ((n : Int) + 1) (by push_cast; rfl))
    generalize wr.setCell ⟨A, 0, none⟩ (.int .i64 ((n : Int) + 1)) = W2 at *
    have hbb := byteI_bd t n
    obtain ⟨g0, g1⟩ := hbb
    go_wp2_with fail
    refine (extend_any (byteI t n) _ g0 g1).mono ?_
    rintro e w5 ⟨rfl, rfl⟩
    have q3 := KM3.out.ins 3 _ rfl
    have z3 := KM3.out.insF 3
    go_wp2_with fail
    go_roundw
    case rel => exact ⟨k + 1, n + 1, _, by omega, by go_num, by have := KNN.out; simpa [widthI] using this, KM3.out.setIns (j := { j with imm := extI (byteI t n) }) 3 _ (by decide) rfl, by have := KST.out; simpa [widthI, rdStep] using this⟩
    case measure => simp [intOf]; omega
   ·have hsz : n + 1 < t.size := by have := KRO.out; simp [widthI] at this; omega
    go_wp2_with fail
    refine (word_any ⟨A, 0, none⟩ ⟨w.heap.size, 0, none⟩ ⟨A + 1, 0, none⟩ n t _ KM2.out.fn KM2.out.at' KM2.out.atF KM2.out.str hsz KM.out).mono ?_
    rintro e w2 ⟨rfl, rfl⟩
    have KM3 := Lib.hid ((KM2.out.setAt (n + 1) ((n : Int) + 1) (by push_cast; rfl)).setAt (n + 2) (((n + 1 : Nat) : Int) + 1) (by push_cast; omega))
    generalize (wr.setCell ⟨A, 0, none⟩ (.int .i64 ((n : Int) + 1))).setCell ⟨A, 0, none⟩ (.int .i64 (((n + 1 : Nat) : Int) + 1)) = W2 at *
    have q3 := KM3.out.ins 3 _ rfl
    have z3 := KM3.out.insF 3
    go_wp2_with fail
    go_roundw
    case rel => exact ⟨k + 1, n + 2, _, by omega, by go_num, by have := KNN.out; simpa [widthI] using this, KM3.out.setIns (j := { j with imm := wordI t n }) 3 _ (by decide) rfl, by have := KST.out; simpa [widthI, rdStep] using this⟩
    case measure => simp [intOf]; omega
   ·have hsz : n + 1 < t.size := by have := KRO.out; simp [widthI] at this; omega
    go_wp2_with fail
    refine (word_any ⟨A, 0, none⟩ ⟨w.heap.size, 0, none⟩ ⟨A + 1, 0, none⟩ n t _ KM2.out.fn KM2.out.at' KM2.out.atF KM2.out.str hsz KM.out).mono ?_
    rintro e w2 ⟨rfl, rfl⟩
    have KM3 := Lib.hid ((KM2.out.setAt (n + 1) ((n : Int) + 1) (by push_cast; rfl)).setAt (n + 2) (((n + 1 : Nat) : Int) + 1) (by push_cast; omega))
    generalize (wr.setCell ⟨A, 0, none⟩ (.int .i64 ((n : Int) + 1))).setCell ⟨A, 0, none⟩ (.int .i64 (((n + 1 : Nat) : Int) + 1)) = W2 at *
    have q4 := KM3.out.ins 4 _ rfl
    have z4 := KM3.out.insF 4
    go_wp2_with fail
    go_roundw
    case rel => exact ⟨k + 1, n + 2, _, by omega, by go_num, by have := KNN.out; simpa [widthI] using this, KM3.out.setIns (j := { j with aux := wordI t n }) 4 _ (by decide) rfl, by have := KST.out; simpa [widthI, rdStep] using this⟩
    case measure => simp [intOf]; omega
   iterate 2
    ·have hsz : n < t.size := by have := KRO.out; simp [widthI] at this; omega
     have hcf := KM2.out.fn
     go_wp2_with fail
     clear hcf
     refine (next_any ⟨A, 0, none⟩ ⟨w.heap.size, 0, none⟩ n t _ KM2.out.at' KM2.out.atF KM2.out.str hsz KM.out).mono ?_
     rintro e w2 ⟨rfl, rfl⟩
     have KM3 := Lib.hid (KM2.out.setAt (n + 1) ((n : Int) + 1) (by push_cast; rfl))
     generalize wr.setCell ⟨A, 0, none⟩ (.int .i64 ((n : Int) + 1)) = W2 at *
     have hbb := byteI_bd t n
     obtain ⟨g0, g1⟩ := hbb
     have hv : IntKind.i64.wrap (byteI t n) = byteI t n := IntWalk.i64_in _ (by omega)
     have q5 := KM3.out.ins 5 _ rfl
     have z5 := KM3.out.insF 5
     go_wp2_with fail
     go_roundw
     case rel => exact ⟨k + 1, n + 1, _, by omega, by go_num, by have := KNN.out; simpa [widthI] using this, KM3.out.setIns (j := { j with bank := byteI t n }) 5 _ (by decide) rfl, by have := KST.out; simpa [widthI, rdStep] using this⟩
     case measure => simp [intOf]; omega
  ·obtain rfl : k = 4 := by omega
   have hb0 : decide (((4 : Nat) : Int) < 4) = false := by decide
   have hj : j = readI t [f0, f1, f2, f3] := by have := KR.out; exact this.symm
   subst hj
   clear hlt hk
   have q0 := KM2.out.ins 0 _ rfl
   have r0 : wr.cell? ⟨w.heap.size + 1 + 1, 0, none⟩ = some (.int .i64 0) := Lib.cell_of_heap KM2.out.res 0
   have y0 : wr.frozen? ⟨w.heap.size + 1 + 1, 0, none⟩ = false := by unfold World.frozen?; rw [show wr.heap[w.heap.size + 1 + 1]? = _ from KM2.out.res]; simp
   have q1 := KM2.out.ins 1 _ rfl
   have r1 : wr.cell? ⟨w.heap.size + 1 + 1, 1, none⟩ = some (.int .i64 0) := Lib.cell_of_heap KM2.out.res 1
   have y1 : wr.frozen? ⟨w.heap.size + 1 + 1, 1, none⟩ = false := by unfold World.frozen?; rw [show wr.heap[w.heap.size + 1 + 1]? = _ from KM2.out.res]; simp
   have q2 := KM2.out.ins 2 _ rfl
   have r2 : wr.cell? ⟨w.heap.size + 1 + 1, 2, none⟩ = some (.int .i64 0) := Lib.cell_of_heap KM2.out.res 2
   have y2 : wr.frozen? ⟨w.heap.size + 1 + 1, 2, none⟩ = false := by unfold World.frozen?; rw [show wr.heap[w.heap.size + 1 + 1]? = _ from KM2.out.res]; simp
   have q3 := KM2.out.ins 3 _ rfl
   have r3 : wr.cell? ⟨w.heap.size + 1 + 1, 3, none⟩ = some (.int .u16 0) := Lib.cell_of_heap KM2.out.res 3
   have y3 : wr.frozen? ⟨w.heap.size + 1 + 1, 3, none⟩ = false := by unfold World.frozen?; rw [show wr.heap[w.heap.size + 1 + 1]? = _ from KM2.out.res]; simp
   have q4 := KM2.out.ins 4 _ rfl
   have r4 : wr.cell? ⟨w.heap.size + 1 + 1, 4, none⟩ = some (.int .u16 0) := Lib.cell_of_heap KM2.out.res 4
   have y4 : wr.frozen? ⟨w.heap.size + 1 + 1, 4, none⟩ = false := by unfold World.frozen?; rw [show wr.heap[w.heap.size + 1 + 1]? = _ from KM2.out.res]; simp
   have q5 := KM2.out.ins 5 _ rfl
   have r5 : wr.cell? ⟨w.heap.size + 1 + 1, 5, none⟩ = some (.int .i64 0) := Lib.cell_of_heap KM2.out.res 5
   have y5 : wr.frozen? ⟨w.heap.size + 1 + 1, 5, none⟩ = false := by unfold World.frozen?; rw [show wr.heap[w.heap.size + 1 + 1]? = _ from KM2.out.res]; simp
   have q6 := KM2.out.ins 6 _ rfl
   have r6 : wr.cell? ⟨w.heap.size + 1 + 1, 6, none⟩ = some (.int .i64 0) := Lib.cell_of_heap KM2.out.res 6
   have y6 : wr.frozen? ⟨w.heap.size + 1 + 1, 6, none⟩ = false := by unfold World.frozen?; rw [show wr.heap[w.heap.size + 1 + 1]? = _ from KM2.out.res]; simp
   generalize hR9 : readI t [f0, f1, f2, f3] = R9 at *
   obtain ⟨j0, j1, j2, j3, j4, j5, j6⟩ := R9
   have KR9 := Lib.hid hR9
   clear hR9
   dsimp only at q0 q1 q2 q3 q4 q5 q6
   go_wp2_with fail
   exact bodyPost_ret (v := .agg #[.int .i64 j0, .int .i64 j1, .int .i64 j2, .int .u16 j3, .int .u16 j4, .int .i64 j5, .int .i64 j6]) (by simp [results, Tryz.results64, go_sem, r0, r1, r2, r3, r4, r5, r6]) rfl ⟨by rw [KR9.out]; rfl, (((((((KM2.out.below.setCell (p := ⟨w.heap.size + 1 + 1, 0, none⟩) (Nat.le_trans (Nat.le_succ _) (Nat.le_succ _)) _).setCell (p := ⟨w.heap.size + 1 + 1, 1, none⟩) (Nat.le_trans (Nat.le_succ _) (Nat.le_succ _)) _).setCell (p := ⟨w.heap.size + 1 + 1, 2, none⟩) (Nat.le_trans (Nat.le_succ _) (Nat.le_succ _)) _).setCell (p := ⟨w.heap.size + 1 + 1, 3, none⟩) (Nat.le_trans (Nat.le_succ _) (Nat.le_succ _)) _).setCell (p := ⟨w.heap.size + 1 + 1, 4, none⟩) (Nat.le_trans (Nat.le_succ _) (Nat.le_succ _)) _).setCell (p := ⟨w.heap.size + 1 + 1, 5, none⟩) (Nat.le_trans (Nat.le_succ _) (Nat.le_succ _)) _).setCell (p := ⟨w.heap.size + 1 + 1, 6, none⟩) (Nat.le_trans (Nat.le_succ _) (Nat.le_succ _)) _)⟩
end Go.Proofs.YtieaicdihingkaaGreat
