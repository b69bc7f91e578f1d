/- Page: a bank with code at an offset. -/
import Derived.Test.YtieaicdihingkaaGreatK25
namespace Go.Proofs.YtieaicdihingkaaGreat
set_option linter.unusedVariables false
set_option linter.unusedSimpArgs false
open Go.RowKit
def pageI (off : Nat) (code : ByteArray) (j : Nat) : Int := if off ≤ j then byteI code (j - off) else 0
def pageB (off : Nat) (code : ByteArray) : ByteArray := ⟨(ramL (pageI off code) 4096).toArray⟩
def pageK (off : Nat) (code : ByteArray) (k j : Nat) : Int := if off ≤ j ∧ j < off + k then byteI code (j - off) else 0
theorem wpList_make_bytes {ops : Array Oper} {rest : List Oper} {o : Oper} {a : Act} {Q : Exit → Act → World → Prop} {W : World} {Z : Array Value} {n : Nat} (N : Int) (hgd : o.guard = none) (ho : o.op = .makeSlice 42 (.const (.int .i64 N)) (.const (.int .i64 N)))
  (hr : (Instr.makeSlice 42 (.int .i64 N) (.int .i64 N)).run Tryz.prog W = .ok (.slice (some ⟨W.heap.size, 0, none⟩) n n) (W.alloc (.cells Z 5))) (h : wpList Tryz.prog ops Q rest (a.put o.dst (.slice (some ⟨W.heap.size, 0, none⟩) n n)) (W.alloc (.cells Z 5))) : wpList Tryz.prog ops Q (o :: rest) a W := by
 refine wpList_plain hgd fun K hK => ?_
 unfold Oper.wp execOp
 simp only [ho, Act.eval, Sem.run_bind, Sem.run_pure, Result.andThen_ok, hr]
 exact hK _ _ h
theorem byteI_get (s : ByteArray) (k : Nat) (h : k < s.size) : ((s[k]'h).toNat : Int) = byteI s k := byteI_at s k h
theorem byteI_zero (s : ByteArray) (k : Nat) (h : s.size ≤ k) : byteI s k = 0 := by
 have hsz : s.data.toList.length = s.size := by rw [← Lib.size_eq]
 unfold byteI
 rw [List.getElem?_eq_none (by omega)]
 rfl
structure PageIn (w wr : World) (off : Nat) (code : ByteArray) (k : Nat) : Prop where
 row : ∃ cur : Array Value, wr.heap[w.heap.size]? = some (.cells cur 5 (0, 0)) ∧ cur.size = 4096 ∧ ∀ j, j < 4096 → cur[j]? = some (.int .u8 (pageK off code k j))
 below : Below w.heap.size w wr
theorem PageIn.step {w wr : World} {off : Nat} {code : ByteArray} {k : Nat} (h : PageIn w wr off code k) (hk : off + k < 4096) : PageIn w (wr.setCell ⟨w.heap.size, off + k, none⟩ (.int .u8 (byteI code k))) off code (k + 1) := by
 obtain ⟨cur, h1, h2, h3⟩ := h.row
 refine ⟨⟨cur.setIfInBounds (off + k) (.int .u8 (byteI code k)), setCell_blk h1, by simpa using h2, fun j hj => ?_⟩, h.below.setCell (p := ⟨w.heap.size, off + k, none⟩) (Nat.le_refl _) _⟩
 rw [Array.getElem?_setIfInBounds]
 by_cases e : off + k = j
 ·subst e
  rw [if_pos rfl, if_pos (by omega)]
  unfold pageK
  rw [if_pos (by omega), Nat.add_sub_cancel_left]
 ·rw [if_neg e, h3 j hj]
  unfold pageK
  by_cases g : off ≤ j ∧ j < off + k
  ·rw [if_pos g, if_pos (by omega)]
  ·rw [if_neg g, if_neg (by omega)]
def PagePost (w : World) (B : ByteArray) (e : Ending) (w' : World) : Prop := e = .returned (.string B) ∧ Below w.heap.size w w'
set_option maxRecDepth 8000 in
set_option maxHeartbeats 4000000 in
theorem page_any (off : Nat) (code : ByteArray) (w : World) (ho : off < 4096) (hs : code.size ≤ 1000000000000) : Calls Tryz.prog 5 #[.int .i64 (off : Int), .string code] w (PagePost w (pageB off code)) := by
 obtain ⟨Z, hZs, hZ, hmk⟩ := make_bytes 4096 (by decide)
 have HMK : Hid (∀ W : World, (Instr.makeSlice 42 (.int .i64 4096) (.int .i64 4096)).run Tryz.prog W = .ok (.slice (some ⟨W.heap.size, 0, none⟩) 4096 4096) (W.alloc (.cells Z 5))) := Lib.hid hmk
 have H0 : Hid (PageIn w (w.alloc (.cells Z 5)) off code 0) := Lib.hid ⟨⟨Z, alloc_at w _, hZs, fun j hj => by
  rw [← Array.getElem?_toList, hZ j hj]
  unfold pageK
  rw [if_neg (by omega)]⟩, below1 w _⟩
 have HO := Lib.hid ho
 have HS := Lib.hid hs
 obtain ⟨PB, hpb⟩ : ∃ PB, pageB off code = PB := ⟨_, rfl⟩
 rw [hpb]
 have HPB := Lib.hid hpb
 clear hZs hZ hmk ho hs hpb
 go_enter Tryz.func5, Tryz.ntmps5
 go_wp2_with (refine wpList_make_bytes 4096 rfl rfl (HMK.out _) ?_)
 generalize w.alloc _ = W0 at *
 clear HMK
 go_loopw [6] (fun i_ wr => ∃ k : Nat, i_ = .int .i64 (k : Int) ∧ k ≤ code.size ∧ off + k ≤ 4096 ∧ PageIn w wr off code k) (fun i_ _ => 4096 - (intOf i_).toNat)
 case atStart => exact ⟨0, rfl, Nat.zero_le _, by have := HO.out; omega, H0.out⟩
 case round =>
  obtain ⟨k, rfl, hk1, hk2, hp⟩ := hrel
  have HP := Lib.hid hp
  have HK1 := Lib.hid hk1
  have HK2 := Lib.hid hk2
  have x1 : IntKind.i64.wrap ((off : Int) + (k : Int)) = (off : Int) + (k : Int) := IntWalk.i64_in _ (by omega)
  have x2 : IntKind.i64.wrap ((k : Int) + 1) = (k : Int) + 1 := IntWalk.i64_in _ (by omega)
  clear hp
  by_cases h1 : k < code.size
  ·have b1 : decide ((k : Int) < (code.size : Int)) = true := decide_eq_true (by omega)
   have b3 : decide (k < code.size) = true := decide_eq_true h1
   by_cases h2 : off + k < 4096
   ·have b2 : decide ((off : Int) + (k : Int) < 4096) = true := decide_eq_true (by omega)
    obtain ⟨cur, hc1, hc2, hc3⟩ := HP.out.row
    have cc : wr.cell? ⟨w.heap.size, off + k, none⟩ = some (.int .u8 (pageK off code k (off + k))) := by
     rw [Lib.cell_of_heap hc1]; exact hc3 _ h2
    have zz : wr.frozen? ⟨w.heap.size, off + k, none⟩ = false := by unfold World.frozen?; rw [hc1]; simp
    have hx := byteI_get code k h1
    have i1 : (0 : Int) ≤ (k : Int) := by omega
    have i2 : (k : Int) < (code.size : Int) := by omega
    have i3 : (0 : Int) ≤ (off : Int) + (k : Int) := by omega
    have i4 : (off : Int) + (k : Int) < 4096 := by omega
    have i5 : ((off : Int) + (k : Int)).toNat = off + k := by omega
    have HP2 := Lib.hid (HP.out.step h2)
    have HH1 := Lib.hid h1
    have HH2 := Lib.hid h2
    clear hc1 hc2 hc3 h2 hk1 hk2
    go_wp2_with fail
    go_roundw
    case rel => exact ⟨k + 1, by go_num, HH1.out, by have := HH2.out; omega, HP2.out⟩
    case measure => have := HH2.out; simp only [intOf]; omega
   ·have b2 : decide ((off : Int) + (k : Int) < 4096) = false := decide_eq_false (by omega)
    have HEQ : Hid (∀ j, j < 4096 → pageK off code k j = pageI off code j) := Lib.hid fun j hj => by
     unfold pageK pageI
     by_cases g : off ≤ j
     ·rw [if_pos g]
      by_cases g2 : j < off + k
      ·rw [if_pos ⟨g, g2⟩]
      ·rw [if_neg (fun q => g2 q.2), byteI_zero _ _ (by omega)]
     ·rw [if_neg g, if_neg (fun q => g q.1)]
    have hcv : (convert 42 9 (.slice (some ⟨w.heap.size, 0, none⟩) 4096 4096)).run Tryz.prog wr = .ok (.string (pageB off code)) wr := by
     obtain ⟨cur, hc1, hc2, hc3⟩ := HP.out.row
     refine ram_conv 4096 (pageI off code) w.heap.size wr fun j hj => ⟨?_, ?_⟩
     ·rw [Lib.cell_of_heap hc1, hc3 j hj, HEQ.out j hj]
     ·unfold pageI
      split
      ·exact byteI_bd _ _
      ·exact ⟨Int.le_refl 0, by decide⟩
    have HBE := Lib.hid HP.out.below
    rw [HPB.out] at hcv
    clear hk1 hk2 h2
    go_wp2_with fail
    exact bodyPost_ret (v := .string PB) (by simp [results, Tryz.results5, go_sem]) rfl ⟨rfl, HBE.out⟩
  ·have b1 : decide ((k : Int) < (code.size : Int)) = false := decide_eq_false (by omega)
   have b3 : decide (k < code.size) = false := decide_eq_false h1
   have HEQ : Hid (∀ j, j < 4096 → pageK off code k j = pageI off code j) := Lib.hid fun j hj => by
    unfold pageK pageI
    by_cases g : off ≤ j
    ·rw [if_pos g]
     by_cases g2 : j < off + k
     ·rw [if_pos ⟨g, g2⟩]
     ·rw [if_neg (fun q => g2 q.2), byteI_zero _ _ (by omega)]
    ·rw [if_neg g, if_neg (fun q => g q.1)]
   have hcv : (convert 42 9 (.slice (some ⟨w.heap.size, 0, none⟩) 4096 4096)).run Tryz.prog wr = .ok (.string (pageB off code)) wr := by
    obtain ⟨cur, hc1, hc2, hc3⟩ := HP.out.row
    refine ram_conv 4096 (pageI off code) w.heap.size wr fun j hj => ⟨?_, ?_⟩
    ·rw [Lib.cell_of_heap hc1, hc3 j hj, HEQ.out j hj]
    ·unfold pageI
     split
     ·exact byteI_bd _ _
     ·exact ⟨Int.le_refl 0, by decide⟩
   have HBE := Lib.hid HP.out.below
   rw [HPB.out] at hcv
   clear hk1 hk2 h1
   go_wp2_with fail
   exact bodyPost_ret (v := .string PB) (by simp [results, Tryz.results5, go_sem]) rfl ⟨rfl, HBE.out⟩
end Go.Proofs.YtieaicdihingkaaGreat
namespace Go.Proofs.YtieaicdihingkaaGreat
set_option linter.unusedVariables false
set_option linter.unusedSimpArgs false
open Go.RowKit
theorem pageB_size (off : Nat) (code : ByteArray) : (pageB off code).size = 4096 := by
 show (ramL (pageI off code) 4096).toArray.size = 4096
 unfold ramL
 rw [List.size_toArray, List.length_map, List.length_range]
def ImagePost2 (w : World) (B : ByteArray) (e : Ending) (w' : World) : Prop :=
 ∃ g : Nat, e = .returned (.agg #[.slice (some ⟨g, 0, none⟩) 1 1, .int .u16 0, .int .u16 0, .slice none 0 0, .slice none 0 0]) ∧ w'.heap[g]? = some (.cells #[.string B] 9 (0, 0)) ∧ w.heap.size ≤ g ∧ Below w.heap.size w w'
def ImagePost (w : World) (B : ByteArray) (e : Ending) (w' : World) : Prop :=
 ∃ g : Nat, e = .returned (.agg #[.slice (some ⟨g, 0, none⟩) 1 1, .int .u16 0, .int .u16 0, .slice none 0 0, .slice none 0 0]) ∧ w'.cell? ⟨g, 0, none⟩ = some (.string B) ∧ g < w'.heap.size ∧ Below w.heap.size w w'
set_option maxRecDepth 8000 in
set_option maxHeartbeats 4000000 in
theorem image_any2 (code : ByteArray) (w : World) (hs : code.size ≤ 1000000000000) : Calls Tryz.prog 10 #[.string code] w (ImagePost2 w (pageB 0 code)) := by
 obtain ⟨PB, hpb⟩ : ∃ PB, pageB 0 code = PB := ⟨_, rfl⟩
 rw [hpb]
 have HC : Hid (∀ W, Calls Tryz.prog 5 #[.int .i64 0, .string code] W (PagePost W PB)) := Lib.hid fun W => hpb ▸ page_any 0 code W (by decide) hs
 have HB0 := Lib.hid (below1 w (Obj.cells #[.slice none 0 0, .int .u16 0, .int .u16 0, .slice none 0 0, .slice none 0 0] 29))
 have HN0 : Hid ((w.alloc (Obj.cells #[.slice none 0 0, .int .u16 0, .int .u16 0, .slice none 0 0, .slice none 0 0] 29)).heap[w.heap.size]? = some (.cells #[.slice none 0 0, .int .u16 0, .int .u16 0, .slice none 0 0, .slice none 0 0] 29 (0, 0))) := Lib.hid (alloc_at w _)
 clear hs hpb
 go_enter Tryz.func10, Tryz.ntmps10
 go_upto_region 1 with (fail)
 generalize w.alloc _ = W0 at *
 go_wp2_with fail
 refine (HC.out _).mono ?_
 rintro e w1 ⟨rfl, h1⟩
 have HB1 := Lib.hid (below_next HB0.out h1)
 have HN1 := Lib.hid ((h1.block _ (Array.getElem?_eq_some_iff.1 HN0.out).1).trans HN0.out)
 have HB2 := Lib.hid (below_alloc HB1.out (Obj.cells #[.string PB] 9))
 have HN2 := Lib.hid (((below1 w1 (Obj.cells #[.string PB] 9)).block _ (Array.getElem?_eq_some_iff.1 HN1.out).1).trans HN1.out)
 have HS2 : Hid ((w1.alloc (Obj.cells #[.string PB] 9)).heap[w1.heap.size]? = some (.cells #[.string PB] 9 (0, 0))) := Lib.hid (alloc_at w1 _)
 clear h1
 go_wp2_with (refine wpList_store_row 29 _ _ rfl rfl w.heap.size rfl #[.slice (some ⟨w1.heap.size, 0, none⟩) 1 1, .int .u16 0, .int .u16 0, .slice none 0 0, .slice none 0 0] rfl HN2.out info35 rfl (by simp [Value.oneCell']) ?_; refine Hid.out ?_)
 have HA := Lib.hid (setRow_heap _ _ _ #[.slice (some ⟨w1.heap.size, 0, none⟩) 1 1, .int .u16 0, .int .u16 0, .slice none 0 0, .slice none 0 0] _ _ HN2.out)
 have HLE : Hid (w.heap.size ≤ w1.heap.size) := Lib.hid HB1.out.size
 have HNE : Hid (w1.heap.size ≠ w.heap.size) := Lib.hid (fun e => by
  have := (Array.getElem?_eq_some_iff.1 HN1.out).1
  omega)
 have HS3 := Lib.hid ((setRow_other (w1.alloc (Obj.cells #[.string PB] 9)) w.heap.size w1.heap.size #[.slice (some ⟨w1.heap.size, 0, none⟩) 1 1, .int .u16 0, .int .u16 0, .slice none 0 0, .slice none 0 0] HNE.out).trans HS2.out)
 have HB3 := Lib.hid (setRow_below (A := w.heap.size) (C := #[.slice (some ⟨w1.heap.size, 0, none⟩) 1 1, .int .u16 0, .int .u16 0, .slice none 0 0, .slice none 0 0]) HB2.out (Nat.le_refl _))
 generalize World.setRow _ _ _ = W3 at *
 refine Lib.hid ?_
 go_wp2_with fail
 exact bodyPost_ret (v := .agg #[.slice (some ⟨w1.heap.size, 0, none⟩) 1 1, .int .u16 0, .int .u16 0, .slice none 0 0, .slice none 0 0]) (row_result rfl _ _ w.heap.size _ 29 rfl HA.out Tryz.underlying29 info35) rfl ⟨w1.heap.size, rfl, HS3.out, HLE.out, HB3.out⟩
theorem image_any (code : ByteArray) (w : World) (hs : code.size ≤ 1000000000000) : Calls Tryz.prog 10 #[.string code] w (ImagePost w (pageB 0 code)) := by
 refine (image_any2 code w hs).mono ?_
 rintro e w' ⟨g, rfl, hb, _, h⟩
 exact ⟨g, rfl, Lib.cell_of_heap hb 0, (Array.getElem?_eq_some_iff.1 hb).1, h⟩
/-- The state of an image that starts. -/
def startM (entry : Int) : Mach := { R := fun _ => 0, pc := entry, sp := 2, fp := 0, f := 0, bank := 0, steps := 0, inputs := 0, polls := 0, ram := fun _ => 0, st := [0, 65535], out := [] }
end Go.Proofs.YtieaicdihingkaaGreat
