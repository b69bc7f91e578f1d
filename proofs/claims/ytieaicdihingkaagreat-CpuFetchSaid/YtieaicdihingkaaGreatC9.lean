/- isa.Decode: the instruction at the beginning of a string. -/
import Derived.Test.YtieaicdihingkaaGreatC8
namespace Go.Proofs.YtieaicdihingkaaGreat
set_option linter.unusedVariables false
set_option linter.unusedSimpArgs false
open Go.RowKit
def zeroI : InsI := ⟨0, 0, 0, 0, 0, 0, 0⟩
def decI (s : ByteArray) : InsI × Int :=
 if s.size = 0 then (zeroI, 10) else
 match fmtOf (byteI s 0) with
 | none => (zeroI, 11)
 | some fs => if (s.size : Int) < sizeI (byteI s 0) then (zeroI, 10) else if validI (readI s fs) = true then (readI s fs, 0) else (zeroI, 11)
theorem empty_list (s : ByteArray) : s.toList.isEmpty = decide (s.size = 0) := by
 rw [ByteArray.toList_eq]
 obtain ⟨⟨l⟩⟩ := s
 cases l with
 | nil => rfl
 | cons a l => simp [ByteArray.size]
def ResI (w V : World) : Prop := V.heap[w.heap.size]? = some (.cells #[.int .i64 0, .int .i64 0, .int .i64 0, .int .u16 0, .int .u16 0, .int .i64 0, .int .i64 0] 68 (0, 0))
theorem resI_cells {w V : World} (h : ResI w V) : (V.cell? ⟨w.heap.size, 0, none⟩ = some (.int .i64 0) ∧ V.cell? ⟨w.heap.size, 1, none⟩ = some (.int .i64 0) ∧ V.cell? ⟨w.heap.size, 2, none⟩ = some (.int .i64 0) ∧ V.cell? ⟨w.heap.size, 3, none⟩ = some (.int .u16 0) ∧ V.cell? ⟨w.heap.size, 4, none⟩ = some (.int .u16 0) ∧ V.cell? ⟨w.heap.size, 5, none⟩ = some (.int .i64 0) ∧ V.cell? ⟨w.heap.size, 6, none⟩ = some (.int .i64 0)) ∧ V.frozen? ⟨w.heap.size, 0, none⟩ = false ∧ V.frozen? ⟨w.heap.size, 1, none⟩ = false ∧ V.frozen? ⟨w.heap.size, 2, none⟩ = false ∧ V.frozen? ⟨w.heap.size, 3, none⟩ = false ∧ V.frozen? ⟨w.heap.size, 4, none⟩ = false ∧ V.frozen? ⟨w.heap.size, 5, none⟩ = false ∧ V.frozen? ⟨w.heap.size, 6, none⟩ = false := by
 have hf : ∀ k, V.frozen? ⟨w.heap.size, k, none⟩ = false := fun k => by unfold World.frozen?; rw [show V.heap[w.heap.size]? = _ from h]; simp
 exact ⟨⟨Lib.cell_of_heap h 0, Lib.cell_of_heap h 1, Lib.cell_of_heap h 2, Lib.cell_of_heap h 3, Lib.cell_of_heap h 4, Lib.cell_of_heap h 5, Lib.cell_of_heap h 6⟩, hf 0, hf 1, hf 2, hf 3, hf 4, hf 5, hf 6⟩
theorem seven {w V : World} (h : Below w.heap.size w V) (a b c d e f g : Value) : Below w.heap.size w (((((((V.setCell ⟨w.heap.size, 0, none⟩ a).setCell ⟨w.heap.size, 1, none⟩ b).setCell ⟨w.heap.size, 2, none⟩ c).setCell ⟨w.heap.size, 3, none⟩ d).setCell ⟨w.heap.size, 4, none⟩ e).setCell ⟨w.heap.size, 5, none⟩ f).setCell ⟨w.heap.size, 6, none⟩ g) :=
 ((((((h.setCell (p := ⟨w.heap.size, 0, none⟩) (Nat.le_refl _) _).setCell (p := ⟨w.heap.size, 1, none⟩) (Nat.le_refl _) _).setCell (p := ⟨w.heap.size, 2, none⟩) (Nat.le_refl _) _).setCell (p := ⟨w.heap.size, 3, none⟩) (Nat.le_refl _) _).setCell (p := ⟨w.heap.size, 4, none⟩) (Nat.le_refl _) _).setCell (p := ⟨w.heap.size, 5, none⟩) (Nat.le_refl _) _).setCell (p := ⟨w.heap.size, 6, none⟩) (Nat.le_refl _) _
theorem ResI.next {w V U : World} {B : Nat} (h : ResI w V) (hw : w.heap.size < B) (hb : Below B V U) : ResI w U := (hb.block _ hw).trans h
theorem rdStep_ok (t : ByteArray) (f : Int) (n : Nat) (i : InsI) (h : i.Ok) : (rdStep t f n i).Ok := by
 have b0 := byteI_bd t n
 have b1 := byteI_bd t (n + 1)
 have b2 := extI_bd (byteI t n) b0.1 b0.2
 obtain ⟨h0, h1, h2, h3⟩ := h
 unfold rdStep
 repeat' split
 all_goals (refine ⟨?_, ?_, ?_, ?_⟩ <;> first | (dsimp only; unfold wordI; omega) | (dsimp only; omega) | assumption)
theorem rdAll_ok (t : ByteArray) : ∀ (l : List Int) (n : Nat) (i : InsI), i.Ok → (rdAll t l n i).Ok
 | [], _, _, h => h
 | f :: l, n, i, h => rdAll_ok t l _ _ (rdStep_ok t f n i h)
theorem readI_ok (t : ByteArray) (l : List Int) : (readI t l).Ok := rdAll_ok t l 1 _ ⟨Int.le_refl 0, (by decide : (0 : Int) < 65536), Int.le_refl 0, (by decide : (0 : Int) < 65536)⟩
def DecPost (s : ByteArray) (w : World) (e : Ending) (w' : World) : Prop := e = .returned (.tuple #[.agg (decI s).1.cells.toArray, .int .i64 (decI s).2]) ∧ Below w.heap.size w w'
set_option maxRecDepth 8000 in
set_option maxHeartbeats 4000000 in
theorem decode_any (s : ByteArray) (w : World) (hm : s.size ≤ 9223372036854775806) : Calls Tryz.prog 37 #[.string s] w (DecPost s w) := by
 have he := empty_list s
 have hm' : (s.size : Int) ≤ 9223372036854775806 := by omega
 have hM := Lib.hid hm
 have hA : ResI w (w.alloc (.cells #[.int .i64 0, .int .i64 0, .int .i64 0, .int .u16 0, .int .u16 0, .int .i64 0, .int .i64 0] 68)) := alloc_at w _
 have KB := Lib.hid (below1 w (Obj.cells #[.int .i64 0, .int .i64 0, .int .i64 0, .int .u16 0, .int .u16 0, .int .i64 0, .int .i64 0] 68))
 have KZ : Hid (w.heap.size < (w.alloc (.cells #[.int .i64 0, .int .i64 0, .int .i64 0, .int .u16 0, .int .u16 0, .int .i64 0, .int .i64 0] 68)).heap.size) := Lib.hid (by simp)
 have HA := Lib.hid hA
 clear hm hA
 by_cases h0 : s.size = 0
 ·have HR : Hid (decI s = (zeroI, 10)) := Lib.hid (by unfold decI; rw [if_pos h0])
  rw [decide_eq_true h0] at he
  clear h0 hm'
  go_enter Tryz.func37, Tryz.ntmps37
  go_upto_region 2 with (fail)
  generalize w.alloc _ = W0 at *
  obtain ⟨⟨r0, r1, r2, r3, r4, r5, r6⟩, y0, y1, y2, y3, y4, y5, y6⟩ := resI_cells (HA.out)
  go_wp2_with fail
  exact bodyPost_ret (v := .tuple #[.agg #[.int .i64 (0), .int .i64 (0), .int .i64 (0), .int .u16 (0), .int .u16 (0), .int .i64 (0), .int .i64 (0)], .int .i64 10]) (by simp [results, Tryz.results37, go_sem, r0, r1, r2, r3, r4, r5, r6]) rfl ⟨by rw [HR.out]; rfl, seven KB.out _ _ _ _ _ _ _⟩
 ·rw [decide_eq_false h0] at he
  have hz : 0 < s.size := by omega
  have hzi : (0 : Int) < (s.size : Int) := by omega
  have hb0 := byteI_bd s 0
  have hx := byteI_at s 0 hz
  have hw : IntKind.i64.wrap (byteI s 0) = byteI s 0 := IntWalk.i64_in _ (by omega)
  have H0 := Lib.hid h0
  have HB0 := Lib.hid hb0
  clear h0
  go_enter Tryz.func37, Tryz.ntmps37
  go_wp2_with fail
  generalize w.alloc _ = W0 at *
  refine formatOf_any _ _ _ (Lib.hid ?_)
  rintro e w1 ⟨hp, h1⟩
  have KW1 := Lib.hid (below_next KB.out h1)
  have HA1 := Lib.hid (HA.out.next KZ.out h1)
  have KZ1 := Lib.hid (Nat.lt_of_lt_of_le KZ.out h1.size)
  clear h1 he
  rcases hp with ⟨f0, f1, f2, f3, hf, rfl⟩ | ⟨hf, rfl⟩
  case inr =>
   have HR : Hid (decI s = (zeroI, 11)) := Lib.hid (by unfold decI; rw [if_neg H0.out, hf])
   have HA2 := fun o => HA1.out.next KZ1.out (below1 w1 o)
   have KW2 := Lib.hid (fun o => below_alloc KW1.out o)
   have HA2' := Lib.hid HA2
   clear hf HA2
   go_upto_region 5 with (fail)
   have HA3 := Lib.hid (HA2'.out (Obj.cells #[.int .i64 0, .int .i64 0, .int .i64 0, .int .i64 0] 98))
   have KW3 := Lib.hid (KW2.out (Obj.cells #[.int .i64 0, .int .i64 0, .int .i64 0, .int .i64 0] 98))
   generalize w1.alloc _ = W2 at *
   obtain ⟨⟨r0, r1, r2, r3, r4, r5, r6⟩, y0, y1, y2, y3, y4, y5, y6⟩ := resI_cells (HA3.out)
   go_wp2_with fail
   exact bodyPost_ret (v := .tuple #[.agg #[.int .i64 (0), .int .i64 (0), .int .i64 (0), .int .u16 (0), .int .u16 (0), .int .i64 (0), .int .i64 (0)], .int .i64 11]) (by simp [results, Tryz.results37, go_sem, r0, r1, r2, r3, r4, r5, r6]) rfl ⟨by rw [HR.out]; rfl, seven KW3.out _ _ _ _ _ _ _⟩
  have HF := Lib.hid hf
  have HBD := Lib.hid (fmtOf_bd hf).2
  clear hf
  have hA2 := fun o => HA1.out.next KZ1.out (below1 w1 o)
  go_upto_region 6 with (fail)
  have HA2 := Lib.hid (hA2 (Obj.cells #[.int .i64 f0, .int .i64 f1, .int .i64 f2, .int .i64 f3] 98))
  have KW2 := Lib.hid (below_alloc KW1.out (Obj.cells #[.int .i64 f0, .int .i64 f1, .int .i64 f2, .int .i64 f3] 98))
  have KN : Hid (∀ V, Below (w1.alloc (Obj.cells #[.int .i64 f0, .int .i64 f1, .int .i64 f2, .int .i64 f3] 98)).heap.size (w1.alloc (Obj.cells #[.int .i64 f0, .int .i64 f1, .int .i64 f2, .int .i64 f3] 98)) V → V.cell? ⟨w1.heap.size, 0, none⟩ = some (.int .i64 f0) ∧ V.cell? ⟨w1.heap.size, 1, none⟩ = some (.int .i64 f1) ∧ V.cell? ⟨w1.heap.size, 2, none⟩ = some (.int .i64 f2) ∧ V.cell? ⟨w1.heap.size, 3, none⟩ = some (.int .i64 f3)) := Lib.hid fun V hV => by
   have h := (hV.block w1.heap.size (by simp)).trans (alloc_at w1 _)
   exact ⟨Lib.cell_of_heap h 0, Lib.cell_of_heap h 1, Lib.cell_of_heap h 2, Lib.cell_of_heap h 3⟩
  have KZ2 : Hid (w.heap.size < (w1.alloc (Obj.cells #[.int .i64 f0, .int .i64 f1, .int .i64 f2, .int .i64 f3] 98)).heap.size) := Lib.hid (Nat.lt_of_lt_of_le KZ1.out (by simp))
  clear hA2 HA1 KW1 KZ1
  generalize w1.alloc _ = W2 at *
  go_wp2_with fail
  refine (size_any (byteI s 0) _ HB0.out.1 HB0.out.2).mono ?_
  rintro e w3 ⟨rfl, h3⟩
  have HA3 := Lib.hid (HA2.out.next KZ2.out h3)
  have KW3 := Lib.hid (below_next KW2.out h3)
  obtain ⟨e0, e1, e2, e3⟩ := KN.out _ h3
  have KZ3 := Lib.hid (Nat.lt_of_lt_of_le KZ2.out h3.size)
  clear h3 KN HA2 KW2
  by_cases hs : (s.size : Int) < sizeI (byteI s 0)
  ·have hd : decide ((s.size : Int) < sizeI (byteI s 0)) = true := decide_eq_true hs
   have HR : Hid (decI s = (zeroI, 10)) := Lib.hid (by unfold decI; rw [if_neg H0.out, HF.out]; exact if_pos hs)
   clear hs
   obtain ⟨⟨r0, r1, r2, r3, r4, r5, r6⟩, y0, y1, y2, y3, y4, y5, y6⟩ := resI_cells (HA3.out)
   go_wp2_with fail
   exact bodyPost_ret (v := .tuple #[.agg #[.int .i64 (0), .int .i64 (0), .int .i64 (0), .int .u16 (0), .int .u16 (0), .int .i64 (0), .int .i64 (0)], .int .i64 10]) (by simp [results, Tryz.results37, go_sem, r0, r1, r2, r3, r4, r5, r6]) rfl ⟨by rw [HR.out]; rfl, seven KW3.out _ _ _ _ _ _ _⟩
  ·have hd : decide ((s.size : Int) < sizeI (byteI s 0)) = false := decide_eq_false hs
   have hsz : 1 + wsum [f0, f1, f2, f3] 4 ≤ s.size := by
    have : sizeI (byteI s 0) = 1 + wsum [f0, f1, f2, f3] 4 := by unfold sizeI; rw [HF.out]
    omega
   have HR := Lib.hid (show decI s = if validI (readI s [f0, f1, f2, f3]) = true then (readI s [f0, f1, f2, f3], 0) else (zeroI, 11) by unfold decI; rw [if_neg H0.out, HF.out]; exact if_neg hs)
   have HRd : Hid (∀ V, Calls Tryz.prog 64 #[.string s, .agg #[.int .i64 f0, .int .i64 f1, .int .i64 f2, .int .i64 f3]] V fun e w' => e = .returned (.agg (readI s [f0, f1, f2, f3]).cells.toArray) ∧ Below V.heap.size V w') := Lib.hid fun V => read_any s f0 f1 f2 f3 V HBD.out hsz hM.out
   have HOK := Lib.hid (readI_ok s [f0, f1, f2, f3])
   clear hs hsz
   go_wp2_with fail
   refine (HRd.out _).mono ?_
   rintro e w4 ⟨rfl, h4⟩
   have HA4 := Lib.hid (HA3.out.next KZ3.out h4)
   have KW4 := Lib.hid (below_next KW3.out h4)
   have KZ4 := Lib.hid (Nat.lt_of_lt_of_le KZ3.out h4.size)
   clear h4 HRd HA3 KW3 hd e0 e1 e2 e3
   obtain ⟨X, hX⟩ : ∃ X : InsI, readI s [f0, f1, f2, f3] = X := ⟨_, rfl⟩
   rw [hX] at HR HOK ⊢
   clear hX
   obtain ⟨j0, j1, j2, j3, j4, j5, j6⟩ := X
   dsimp only [InsI.cells, List.toList_toArray]
   have HV := Lib.hid (fun V => valid_any ⟨j0, j1, j2, j3, j4, j5, j6⟩ V HOK.out)
   have KA : Hid (∀ V, Below (w4.alloc (Obj.cells #[.int .i64 j0, .int .i64 j1, .int .i64 j2, .int .u16 j3, .int .u16 j4, .int .i64 j5, .int .i64 j6] 68)).heap.size (w4.alloc (Obj.cells #[.int .i64 j0, .int .i64 j1, .int .i64 j2, .int .u16 j3, .int .u16 j4, .int .i64 j5, .int .i64 j6] 68)) V → (V.cell? ⟨w4.heap.size, 0, none⟩ = some (.int .i64 j0) ∧ V.cell? ⟨w4.heap.size, 1, none⟩ = some (.int .i64 j1) ∧ V.cell? ⟨w4.heap.size, 2, none⟩ = some (.int .i64 j2) ∧ V.cell? ⟨w4.heap.size, 3, none⟩ = some (.int .u16 j3) ∧ V.cell? ⟨w4.heap.size, 4, none⟩ = some (.int .u16 j4) ∧ V.cell? ⟨w4.heap.size, 5, none⟩ = some (.int .i64 j5) ∧ V.cell? ⟨w4.heap.size, 6, none⟩ = some (.int .i64 j6)) ∧ ResI w V ∧ Below w.heap.size w V) := Lib.hid fun V hV => by
    have h := (hV.block w4.heap.size (by simp)).trans (alloc_at w4 _)
    exact ⟨⟨Lib.cell_of_heap h 0, Lib.cell_of_heap h 1, Lib.cell_of_heap h 2, Lib.cell_of_heap h 3, Lib.cell_of_heap h 4, Lib.cell_of_heap h 5, Lib.cell_of_heap h 6⟩, (HA4.out.next KZ4.out (below1 w4 _)).next (Nat.lt_of_lt_of_le KZ4.out (by simp)) hV, below_next (below_alloc KW4.out _) hV⟩
   go_upto_region 9 with (fail)
   clear HA4 KW4 KZ4
   generalize w4.alloc _ = W5 at *
   obtain ⟨⟨a0, a1, a2, a3, a4, a5, a6⟩, _⟩ := KA.out W5 (Below.refl _ _)
   go_wp2_with fail
   refine (HV.out _).mono ?_
   rintro e w6 ⟨rfl, h6⟩
   clear a0 a1 a2 a3 a4 a5 a6
   obtain ⟨⟨a0, a1, a2, a3, a4, a5, a6⟩, hA6, hB6⟩ := KA.out _ h6
   have HB6 := Lib.hid hB6
   clear h6 KA HV hB6
   obtain ⟨⟨r0, r1, r2, r3, r4, r5, r6⟩, y0, y1, y2, y3, y4, y5, y6⟩ := resI_cells (hA6)
   clear hA6
   cases hv : validI ⟨j0, j1, j2, j3, j4, j5, j6⟩
   ·have HR2 : Hid (decI s = (zeroI, 11)) := Lib.hid (by rw [HR.out, hv]; rfl)
    clear hv
    go_wp2_with fail
    exact bodyPost_ret (v := .tuple #[.agg #[.int .i64 (0), .int .i64 (0), .int .i64 (0), .int .u16 (0), .int .u16 (0), .int .i64 (0), .int .i64 (0)], .int .i64 11]) (by simp [results, Tryz.results37, go_sem, r0, r1, r2, r3, r4, r5, r6]) rfl ⟨by rw [HR2.out]; rfl, seven HB6.out _ _ _ _ _ _ _⟩
   ·have HR2 : Hid (decI s = (⟨j0, j1, j2, j3, j4, j5, j6⟩, 0)) := Lib.hid (by rw [HR.out, hv]; rfl)
    clear hv
    go_wp2_with fail
    exact bodyPost_ret (v := .tuple #[.agg #[.int .i64 (j0), .int .i64 (j1), .int .i64 (j2), .int .u16 (j3), .int .u16 (j4), .int .i64 (j5), .int .i64 (j6)], .int .i64 0]) (by simp [results, Tryz.results37, go_sem, r0, r1, r2, r3, r4, r5, r6]) rfl ⟨by rw [HR2.out]; rfl, seven HB6.out _ _ _ _ _ _ _⟩
end Go.Proofs.YtieaicdihingkaaGreat
