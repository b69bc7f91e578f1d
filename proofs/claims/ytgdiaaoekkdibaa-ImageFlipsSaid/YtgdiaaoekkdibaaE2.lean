/- The chapter's example image: the contract of example. -/
import Derived.Test.YtgdiaaoekkdibaaI15
import Derived.Test.YtgdiaaoekkdibaaB1
import Derived.Test.YtgdiaaoekkdibaaP2
import Derived.Deep.OwnRows
import Derived.Test.YtgdiaaoekkdibaaI9
import Derived.Test.YtgdiaaoekkdibaaI10
import Derived.Test.YtgdiaaoekkdibaaI12
namespace Go.Proofs.Ytgdiaaoekkdibaa
set_option linter.unusedVariables false
set_option linter.unusedSimpArgs false
open Go.RowKit
def zrow : Array Value := madeCells #[.int .u8 0] 4096
theorem make_run (w : World) : (Instr.makeSlice 36 (.int .i64 4096) (.int .i64 4096)).run Try.prog w = .ok (.slice (some ⟨w.heap.size, 0, none⟩) 4096 4096) (w.alloc (.cells zrow 5)) :=
  run_make_row' (P := Try.prog) 36 5 (.int .u8 0) 1 Try.underlying36 infoByte rfl .i64 .i64 4096 (by decide) (by decide) w
theorem zrow_is (w : World) : (w.alloc (.cells zrow 5)).rowIs w.heap.size 5 4096 (fun _ => .int .u8 0) := World.rowIs_made _ _ _ _
def exB (i : Nat) : UInt8 := if i = 3 then 64 else if i = 2 then 2 else 0
def exL : List UInt8 := (List.range 4096).map exB
theorem exL_len : exL.length = 4096 := by unfold exL; rw [List.length_map, List.length_range]
def exS : ByteArray := bytesOf exL
theorem exS_size : exS.size = 4096 := (bytesOf_size exL).trans exL_len
theorem zrow_at (i : Nat) (h : i < 4096) : zrow[i]? = some (.int .u8 0) := by unfold zrow madeCells; simp [h, Nat.mod_one]
def exrow : Array Value := (zrow.setIfInBounds 2 (.int .u8 2)).setIfInBounds 3 (.int .u8 64)
theorem exrow_at (i : Nat) (h : i < 4096) : exrow[i]? = some (.int .u8 ((exB i).toNat : Int)) := by
  have hz : zrow.size = 4096 := size_madeCells _ _
  unfold exrow exB
  rw [Array.getElem?_setIfInBounds]
  by_cases h3 : i = 3
  · subst h3; simp [hz]
  · rw [if_neg (fun e => h3 e.symm), if_neg h3, Array.getElem?_setIfInBounds]
    by_cases h2 : i = 2
    · subst h2; simp [hz]
    · rw [if_neg (fun e => h2 e.symm), if_neg h2, zrow_at i h]; rfl
theorem exL_at (j : Nat) (h : j < 4096) : exL[j]? = some (exB j) := by
  unfold exL; rw [List.getElem?_map, List.getElem?_range h]; rfl
theorem ex_conv (W : World) : (convert 36 9 (.slice (some ⟨W.heap.size, 0, none⟩) 4096 4096)).run Try.prog (W.alloc (.cells exrow 5)) = .ok (.string exS) (W.alloc (.cells exrow 5)) := by
  have h := run_convert_bytes_back (P := Try.prog) (W.alloc (.cells exrow 5)) 36 9 5 ⟨W.heap.size, 0, none⟩ 4096 exL Try.underlying36 Try.underlying5 Try.underlying9 (by
    intro j hj
    have hl := exL_len
    have hj' : j < 4096 := by omega
    have e1 := exL_at j hj'
    rw [List.getElem?_eq_getElem hj] at e1
    have ea : (⟨W.heap.size, 0, none⟩ : Addr).add j = ⟨W.heap.size, j, none⟩ := by simp [Addr.add]; exact fun h => h.symm
    rw [Option.some.inj e1, ea, Lib.cell_of_heap (alloc_at W (.cells exrow 5))]
    exact exrow_at j hj')
  rw [exL_len] at h
  exact h
def exI : Img := ⟨[exS], 16, 0, [⟨-1, 16384, 4⟩], [⟨0, 2⟩]⟩
theorem ex_at (W : World) (B : Nat) (h2 : W.cell? ⟨B, 0, none⟩ = some (.string exS)) (h30 : W.cell? ⟨B + 1, 0, none⟩ = some (.int .i64 (-1))) (h31 : W.cell? ⟨B + 1, 1, none⟩ = some (.int .u16 16384)) (h32 : W.cell? ⟨B + 1, 2, none⟩ = some (.int .u16 4))
    (h40 : W.cell? ⟨B + 2, 0, none⟩ = some (.int .i64 0)) (h41 : W.cell? ⟨B + 2, 1, none⟩ = some (.int .u16 2)) (hz : B + 3 ≤ W.heap.size) : ImgAt W (some ⟨B, 0, none⟩) (some ⟨B + 1, 0, none⟩) (some ⟨B + 2, 0, none⟩) exI := by
  refine ⟨?_, ?_, ?_, ⟨by decide, by decide⟩, ⟨by decide, by decide⟩, by decide, by decide, by decide⟩
  · intro k s hk
    obtain rfl : k = 0 := by
      have := (List.getElem?_eq_some_iff.1 hk).1
      simp [exI] at this; exact this
    obtain rfl : exS = s := by simpa [exI] using hk
    exact ⟨B, rfl, by omega, h2, by rw [exS_size]; decide⟩
  · intro k o hk
    obtain rfl : k = 0 := by
      have := (List.getElem?_eq_some_iff.1 hk).1
      simp [exI] at this; exact this
    obtain rfl : (⟨-1, 16384, 4⟩ : ObjI) = o := by simpa [exI] using hk
    exact ⟨B + 1, rfl, by omega, h30, h31, h32, ⟨by decide, by decide⟩, ⟨by decide, by decide⟩, ⟨by decide, by decide⟩⟩
  · intro k o hk
    obtain rfl : k = 0 := by
      have := (List.getElem?_eq_some_iff.1 hk).1
      simp [exI] at this; exact this
    obtain rfl : (⟨0, 2⟩ : RelI) = o := by simpa [exI] using hk
    exact ⟨B + 2, rfl, by omega, h40, h41, ⟨by decide, by decide⟩, ⟨by decide, by decide⟩⟩
set_option maxRecDepth 8000 in
set_option maxHeartbeats 800000 in
theorem example_any (w : World) :
    Calls Try.prog 42 #[] w fun e w' => e = .returned (.agg #[.slice (some ⟨w.heap.size + 2, 0, none⟩) 1 1, .int .u16 16, .int .u16 0, .slice (some ⟨w.heap.size + 3, 0, none⟩) 1 1, .slice (some ⟨w.heap.size + 4, 0, none⟩) 1 1]) ∧ ImgAt w' (some ⟨w.heap.size + 2, 0, none⟩) (some ⟨w.heap.size + 3, 0, none⟩) (some ⟨w.heap.size + 4, 0, none⟩) exI ∧ Below w.heap.size w w' := by
  have hmk := make_run
  have z2 := zrow_at 2 (by decide)
  have z3 : (zrow.setIfInBounds 2 (.int .u8 2))[3]? = some (.int .u8 0) := by rw [Array.getElem?_setIfInBounds, if_neg (by decide)]; exact zrow_at 3 (by decide)
  have z3b := zrow_at 3 (by decide)
  have hcv := ex_conv (w.alloc (Obj.cells #[Value.slice none 0 0, Value.int IntKind.u16 0, Value.int IntKind.u16 0, Value.slice none 0 0, Value.slice none 0 0] 30))
  have hsz : (w.alloc (Obj.cells #[Value.slice none 0 0, Value.int IntKind.u16 0, Value.int IntKind.u16 0, Value.slice none 0 0, Value.slice none 0 0] 30)).heap.size = w.heap.size + 1 := by simp
  rw [hsz] at hcv
  unfold exrow at hcv
  clear hsz
  go_enter Try.func42, Try.ntmps42
  go_wp2_with fail
  refine bodyPost_ret (v := .agg #[.slice (some ⟨w.heap.size + 2, 0, none⟩) 1 1, .int .u16 16, .int .u16 0, .slice (some ⟨w.heap.size + 3, 0, none⟩) 1 1, .slice (some ⟨w.heap.size + 4, 0, none⟩) 1 1]) (by simp [results, Try.results42, go_sem]) rfl ⟨rfl, ?_, ?_⟩
  · exact ex_at _ (w.heap.size + 2) (by simp [go_sem]) (by simp [go_sem]) (by simp [go_sem]) (by simp [go_sem]) (by simp [go_sem]) (by simp [go_sem]) (by simp)
  · exact below_alloc (below_alloc (below_alloc (below_alloc (below1 _ _) _) _) _) _
end Go.Proofs.Ytgdiaaoekkdibaa
namespace Go.Proofs.Ytgdiaaoekkdibaa
set_option linter.unusedVariables false
set_option linter.unusedSimpArgs false
open Go.RowKit
theorem bytesOf_list (l : List UInt8) : (bytesOf l).data.toList = l := rfl
theorem exS_byte (j : Nat) (h : j < 4096) : byteI exS j = ((exB j).toNat : Int) := by
  unfold byteI exS; rw [bytesOf_list, exL_at j h]; rfl
theorem ex_word : relWord [exS] ⟨0, 2⟩ = 16386 := by
  have h : relWord [exS] ⟨0, 2⟩ = wordAt exS 2 := rfl
  rw [h, wordAt_eq, exS_byte 2 (by decide), exS_byte 3 (by decide)]
  decide
theorem ex_full : Full [exS] := by
  intro s hs
  obtain rfl : s = exS := by simpa using hs
  exact exS_size
theorem meets_of (S : ByteArray) (h : relWord [S] ⟨0, 2⟩ = 16386) : relMeets [S] [⟨-1, 16384, 4⟩] ⟨0, 2⟩ = true := by
  unfold relMeets; rw [h]; simp [objFind, ObjI.has]
theorem ex_meets : relMeets [exS] [⟨-1, 16384, 4⟩] ⟨0, 2⟩ = true := meets_of exS ex_word
theorem ex_wrong (S : ByteArray) (h : relMeets [S] [⟨-1, 16384, 4⟩] ⟨0, 2⟩ = true) : relWrong [S] [⟨-1, 16384, 4⟩] none ⟨0, 2⟩ = false := by
  unfold relWrong; rw [h]; simp [RelI.bad0, RelI.late]
theorem ex_first (S : ByteArray) (h : relWrong [S] [⟨-1, 16384, 4⟩] none ⟨0, 2⟩ = false) : firstRel [S] [⟨-1, 16384, 4⟩] none [⟨0, 2⟩] 0 = -1 := by
  unfold firstRel; rw [h]; rfl
theorem ex_check0 (S : ByteArray) (hF : Full [S]) (h : firstRel [S] [⟨-1, 16384, 4⟩] none [⟨0, 2⟩] 0 = -1) : checkI ⟨[S], 16, 0, [⟨-1, 16384, 4⟩], [⟨0, 2⟩]⟩ = 0 := by
  refine check0 ⟨[S], 16, 0, [⟨-1, 16384, 4⟩], [⟨0, 2⟩]⟩ ?_ (by simp) ?_
  · intro h
    rcases h with h | h | h
    · simp at h
    · simp at h
    · exact h hF
  · intro h1
    rcases h1 with h1 | h1 | h1 | h1
    · simp at h1
    · simp at h1
    · simp [firstObj, objWrong, ObjI.bad0] at h1
    · dsimp only at h1
      rw [h] at h1; exact absurd h1 (by decide)
theorem ex_check : checkI exI = 0 := ex_check0 exS ex_full (ex_first exS (ex_wrong exS ex_meets))
theorem ex_file : (fileI exI).size = 4120 := by
  have h := fileL_len exI ex_full
  exact (bytesOf_size _).trans h
theorem ex_head : (fileL exI).take 14 = [86, 69, 76, 77, 1, 0, 16, 0, 0, 0, 1, 0, 1, 0] := by
  have e : fileL exI = headL exI ++ (exI.data.flatMap objB ++ (exI.relocs.flatMap relB ++ (exI.banks.flatMap strB ++ putL [sumI (bytesOf (bodyL exI)) (bodyL exI).length]))) := by
    unfold fileL bodyL; simp only [List.append_assoc]
  rw [e, List.take_append_of_le_length (by rw [headL_len]; exact Nat.le_refl _), List.take_of_length_le (by rw [headL_len]; exact Nat.le_refl _)]
  decide
def exT : ByteArray := (fileI exI).extract 0 100
theorem exT_size : exT.size = 100 := by unfold exT; rw [ByteArray.size_extract, ex_file]; decide
theorem exT_list : exT.data.toList = (fileL exI).take 100 := by
  unfold exT
  rw [ByteArray.data_extract, Array.toList_extract, List.extract_eq_take_drop]
  simp [fileI, bytesOf_list]
theorem exT_byte (j : Nat) (h : j < 14) : byteI exT j = ((([86, 69, 76, 77, 1, 0, 16, 0, 0, 0, 1, 0, 1, 0] : List UInt8)[j]?.getD 0).toNat : Int) := by
  unfold byteI
  rw [exT_list, List.getElem?_take_of_lt (by omega), ← ex_head, List.getElem?_take_of_lt h]
theorem exT_word (j : Nat) (h : j + 1 < 14) : wordAt exT j = ((([86, 69, 76, 77, 1, 0, 16, 0, 0, 0, 1, 0, 1, 0] : List UInt8)[j]?.getD 0).toNat : Int) + ((([86, 69, 76, 77, 1, 0, 16, 0, 0, 0, 1, 0, 1, 0] : List UInt8)[j + 1]?.getD 0).toNat : Int) * 256 := by
  rw [wordAt_eq, exT_byte j (by omega), exT_byte (j + 1) h]
theorem exT_velm : isVelm exT = true := by
  have e : (exT.extract 0 4).toList = [86, 69, 76, 77] := by
    have h : (exT.extract 0 4).data.toList = [86, 69, 76, 77] := by
      rw [ByteArray.data_extract, Array.toList_extract, List.extract_eq_take_drop, exT_list]
      have h4 : List.take 4 ((fileL exI).take 14) = [86, 69, 76, 77] := by rw [ex_head]; rfl
      rw [List.take_take] at h4
      simpa [List.take_take] using h4
    rw [← h]
    exact ByteArray.toList_eq _
  unfold isVelm; rw [e]; rfl
theorem exT_headE : (headE exT).2 = 0 := by
  have w4 : wordAt exT 4 = 1 := by rw [exT_word 4 (by decide)]; decide
  have w6 : wordAt exT 6 = 16 := by rw [exT_word 6 (by decide)]; decide
  have w8 : wordAt exT 8 = 0 := by rw [exT_word 8 (by decide)]; decide
  have w10 : wordAt exT 10 = 1 := by rw [exT_word 10 (by decide)]; decide
  have w12 : wordAt exT 12 = 1 := by rw [exT_word 12 (by decide)]; decide
  rw [headE_8 exT (by rw [exT_size]; decide) (by rw [exT_velm]; decide) (by rw [exT_size]; decide) (by rw [w4]; decide) (by rw [w10]; decide) (by rw [w12]; decide) (by rw [w6]; decide) (by rw [w8]; decide)]
theorem exT_read : readE exT = (100, 10) := by
  have w4 : wordAt exT 4 = 1 := by rw [exT_word 4 (by decide)]; decide
  have w10 : wordAt exT 10 = 1 := by rw [exT_word 10 (by decide)]; decide
  have w12 : wordAt exT 12 = 1 := by rw [exT_word 12 (by decide)]; decide
  have hs := stopA_cast exT
  rw [w4, w10, w12] at hs
  rw [readE_short exT exT_headE (by rw [exT_size]; omega), exT_size]; rfl
theorem ex_code : codeI [exS] 0 4098 2 = ⟨#[2, 64]⟩ := by
  have ho : offI [exS] 0 4098 = (0, 2, true) := offI_yes [exS] 0 4098 exS (by unfold isCode; omega) (by decide) rfl (by rw [exS_size]; decide)
  have hz : (exS.extract 2 exS.size).size = 4094 := by rw [ByteArray.size_extract, exS_size]; decide
  rw [codeI_yes [exS] 0 4098 2 exS (by rw [ho]) (by decide) rfl]
  have e2 : ((4098 : Int) % 4096).toNat = 2 := by decide
  rw [e2, hz]
  have e3 : (min (2 : Int) ((4094 : Nat) : Int)).toNat = 2 := by decide
  rw [e3]
  apply ByteArray.ext
  apply Array.ext'
  have hd : (exS.extract 2 exS.size).data.toList = exL.drop 2 := by
    rw [ByteArray.data_extract, Array.toList_extract, List.extract_eq_take_drop, exS_size]
    unfold exS
    rw [bytesOf_list]
    exact List.take_of_length_le (by rw [List.length_drop, exL_len]; decide)
  rw [ByteArray.data_extract, Array.toList_extract, List.extract_eq_take_drop, hd]
  apply List.ext_getElem?
  intro j
  by_cases hj : j < 2
  · rw [List.getElem?_take_of_lt (by omega), List.drop_zero, List.getElem?_drop, exL_at _ (by omega)]
    obtain rfl | rfl : j = 0 ∨ j = 1 := by omega
    · rfl
    · rfl
  · rw [List.getElem?_eq_none (by simp; omega), List.getElem?_eq_none (by simp; omega)]
theorem ex_off : offI [exS] 1 4098 = (0, 0, false) := offI_no1 _ _ _ (by decide)
theorem ex_obj : objFind (-1) 16387 exI.data 0 = (0, 3, true) := by decide
theorem ex_rel3 : isRel exI.relocs 0 3 = false := by decide
theorem ex_rel2 : isRel exI.relocs 0 2 = true := by decide
theorem ex_bytes : bytesI exI = fileI exI := if_pos ex_check
theorem ex_off' : offI exI.banks 1 4098 = (0, 0, false) := ex_off
theorem ex_code' : codeI exI.banks 0 4098 2 = ⟨#[2, 64]⟩ := ex_code
theorem bytes_ex (p1 p2 p3 : Option Addr) (W : World) (hI : ImgAt W p1 p2 p3 exI) :
    Calls Try.prog 21 #[.agg #[.slice p1 1 1, .int .u16 16, .int .u16 0, .slice p2 1 1, .slice p3 1 1]] W fun e w' => e = .returned (.tuple #[.string (fileI exI), .int .i64 0]) ∧ Below W.heap.size W w' := by
  have h := bytes_any p1 1 p2 1 p3 1 exI W hI
  rw [ex_bytes] at h
  rw [ex_check] at h
  exact h
theorem check_ex (p1 p2 p3 : Option Addr) (W : World) (hI : ImgAt W p1 p2 p3 exI) :
    Calls Try.prog 18 #[.agg #[.slice p1 1 1, .int .u16 16, .int .u16 0, .slice p2 1 1, .slice p3 1 1]] W fun e w' => e = .returned (.int .i64 0) ∧ Below W.heap.size W w' := by
  have h := check_any p1 1 p2 1 p3 1 exI W hI
  rw [ex_check] at h
  exact h
theorem off_ex (p1 p2 p3 : Option Addr) (W : World) (hI : ImgAt W p1 p2 p3 exI) :
    Calls Try.prog 26 #[.agg #[.slice p1 1 1, .int .u16 16, .int .u16 0, .slice p2 1 1, .slice p3 1 1], .agg #[.int .i64 1, .int .u16 4098]] W fun e w' => e = .returned (.tuple #[.int .i64 0, .int .i64 0, .bool false]) ∧ Below W.heap.size W w' := by
  have h := offset_any p1 1 p2 1 p3 1 exI 1 4098 W hI ⟨by decide, by decide⟩ ⟨by decide, by decide⟩
  rw [ex_off'] at h
  exact h
theorem code1_ex (p1 p2 p3 : Option Addr) (W : World) (hI : ImgAt W p1 p2 p3 exI) :
    Calls Try.prog 28 #[.agg #[.slice p1 1 1, .int .u16 16, .int .u16 0, .slice p2 1 1, .slice p3 1 1], .agg #[.int .i64 0, .int .u16 4098], .int .i64 2] W fun e w' => e = .returned (.string ⟨#[2, 64]⟩) ∧ Below W.heap.size W w' := by
  have h := code1_any p1 1 p2 1 p3 1 exI 0 4098 2 W hI ⟨by decide, by decide⟩ ⟨by decide, by decide⟩ ⟨by decide, by decide⟩
  rw [ex_code'] at h
  exact h
theorem rel3_ex (p1 p2 p3 : Option Addr) (W : World) (hI : ImgAt W p1 p2 p3 exI) :
    Calls Try.prog 32 #[.agg #[.slice p1 1 1, .int .u16 16, .int .u16 0, .slice p2 1 1, .slice p3 1 1], .int .i64 0, .int .i64 3] W fun e w' => e = .returned (.bool false) ∧ Below W.heap.size W w' := by
  have h := isreloc_any p1 1 p2 1 p3 1 exI 0 3 W hI ⟨by decide, by decide⟩ ⟨by decide, by decide⟩
  rw [ex_rel3] at h
  exact h
theorem rel2_ex (p1 p2 p3 : Option Addr) (W : World) (hI : ImgAt W p1 p2 p3 exI) :
    Calls Try.prog 32 #[.agg #[.slice p1 1 1, .int .u16 16, .int .u16 0, .slice p2 1 1, .slice p3 1 1], .int .i64 0, .int .i64 2] W fun e w' => e = .returned (.bool true) ∧ Below W.heap.size W w' := by
  have h := isreloc_any p1 1 p2 1 p3 1 exI 0 2 W hI ⟨by decide, by decide⟩ ⟨by decide, by decide⟩
  rw [ex_rel2] at h
  exact h
theorem obj_ex (p1 p2 p3 : Option Addr) (W : World) (hI : ImgAt W p1 p2 p3 exI) :
    Calls Try.prog 30 #[.slice p2 1 1, .int .i64 (-1), .int .u16 16387] W fun e w' => e = .returned (.tuple #[.int .i64 0, .int .u16 3, .bool true]) ∧ Below W.heap.size W w' := by
  have h := objectAt_any p2 1 exI.data (-1) 16387 W (by decide) hI.data ⟨by decide, by decide⟩ ⟨by decide, by decide⟩
  rw [ex_obj] at h
  exact h
def ReadEx (W : World) (e : Ending) (w' : World) : Prop := ∃ (p1 : Option Addr) (c1 : Nat) (p2 : Option Addr) (c2 : Nat) (p3 : Option Addr) (c3 : Nat), e = .returned (.tuple #[.agg #[.slice p1 0 c1, .int .u16 0, .int .u16 0, .slice p2 0 c2, .slice p3 0 c3], .int .i64 100, .int .i64 10]) ∧ Below W.heap.size W w'
theorem read_ex (W : World) : Calls Try.prog 25 #[.string exT] W (ReadEx W) := by
  refine readB_any exT W (by rw [exT_size]; decide) exT_headE ?_ _ (fun e w' h => ?_)
  · have w4 : wordAt exT 4 = 1 := by rw [exT_word 4 (by decide)]; decide
    have w10 : wordAt exT 10 = 1 := by rw [exT_word 10 (by decide)]; decide
    have w12 : wordAt exT 12 = 1 := by rw [exT_word 12 (by decide)]; decide
    have hs := stopA_cast exT
    rw [w4, w10, w12] at hs
    rw [exT_size]; omega
  · obtain ⟨p1, c1, p2, c2, p3, c3, he, hI, hB⟩ := h
    have er : readI exT = emptyI := by unfold readI; rw [exT_read]; rfl
    rw [er, exT_read] at he
    exact ⟨p1, c1, p2, c2, p3, c3, he, hB⟩
/-- What sanity keeps. -/
structure SanAt (N : Nat) (p1 p2 p3 : Option Addr) (w' : World) : Prop where
  i0 : w'.cell? ⟨N, 0, none⟩ = some (.slice p1 1 1)
  i1 : w'.cell? ⟨N, 1, none⟩ = some (.int .u16 16)
  i2 : w'.cell? ⟨N, 2, none⟩ = some (.int .u16 0)
  i3 : w'.cell? ⟨N, 3, none⟩ = some (.slice p2 1 1)
  i4 : w'.cell? ⟨N, 4, none⟩ = some (.slice p3 1 1)
  img : Hid (ImgAt w' p1 p2 p3 exI)
theorem SanAt.next {N : Nat} {p1 p2 p3 : Option Addr} {w w' : World} (h : SanAt N p1 p2 p3 w) (hN : N < w.heap.size) (hb : Below w.heap.size w w') : SanAt N p1 p2 p3 w' :=
  ⟨(hb.cell hN).trans h.i0, (hb.cell hN).trans h.i1, (hb.cell hN).trans h.i2, (hb.cell hN).trans h.i3, (hb.cell hN).trans h.i4, h.img.out.kept hb⟩
set_option maxRecDepth 8000 in
set_option maxHeartbeats 1600000 in
theorem sanity_any (w : World) : Calls Try.prog 15 #[] w fun e w' => e = .returned (.bool true) ∧ Below w.heap.size w w' := by
  go_enter Try.func15, Try.ntmps15
  go_wp2_with fail
  refine (example_any _).mono ?_
  rintro e w1 ⟨rfl, hI, hB⟩
  obtain ⟨p1, hp1⟩ : ∃ p : Option Addr, some ⟨w.heap.size + 2, 0, none⟩ = p := ⟨_, rfl⟩
  obtain ⟨p2, hp2⟩ : ∃ p : Option Addr, some ⟨w.heap.size + 3, 0, none⟩ = p := ⟨_, rfl⟩
  obtain ⟨p3, hp3⟩ : ∃ p : Option Addr, some ⟨w.heap.size + 4, 0, none⟩ = p := ⟨_, rfl⟩
  rw [hp1, hp2, hp3] at hI ⊢
  clear hp1 hp2 hp3
  have S0 : SanAt w1.heap.size p1 p2 p3 (w1.alloc (Obj.cells #[.slice p1 1 1, .int .u16 16, .int .u16 0, .slice p2 1 1, .slice p3 1 1] 30)) :=
    ⟨by simp, by simp, by simp, by simp, by simp, hI.kept (below1 _ _)⟩
  have hN0 : w1.heap.size < (w1.alloc (Obj.cells #[.slice p1 1 1, .int .u16 16, .int .u16 0, .slice p2 1 1, .slice p3 1 1] 30)).heap.size := by simp
  have B0 := Lib.hid (below_alloc hB (Obj.cells #[.slice p1 1 1, .int .u16 16, .int .u16 0, .slice p2 1 1, .slice p3 1 1] 30))
  clear hI hB
  go_wp2_with fail
  generalize w1.alloc (Obj.cells #[.slice p1 1 1, .int .u16 16, .int .u16 0, .slice p2 1 1, .slice p3 1 1] 30) = W1 at *
  generalize w1.heap.size = N at *
  refine (bytes_ex p1 p2 p3 _ S0.img.out).mono ?_
  rintro e w2 ⟨rfl, h2⟩
  have S1 := S0.next hN0 h2
  have hN1 : N < w2.heap.size := by have := h2.size; omega
  have B1 := Lib.hid (below_next B0.out h2)
  clear S0 hN0 B0 h2
  obtain ⟨i0, i1, i2, i3, i4, him⟩ := S1
  have hF := ex_file
  have HT : Hid (exT = (fileI exI).extract 0 100) := rfl
  generalize fileI exI = F at *
  have hF1 : ((F.size : Int) != 4120) = false := by rw [hF]; decide
  have hF2 : (100 : Int) ≤ F.size := by omega
  have hF3 : 100 ≤ F.size := by omega
  clear hF
  go_wp2_with fail
  rw [← HT.out]
  clear HT hF1 hF2 hF3
  refine (read_ex _).mono ?_
  rintro e w3 ⟨q1, c1, q2, c2, q3, c3, rfl, h3⟩
  have S2 := SanAt.next ⟨i0, i1, i2, i3, i4, him⟩ hN1 h3
  have hN2 : N < w3.heap.size := by have := h3.size; omega
  have B2 := Lib.hid (below_next B1.out h3)
  clear i0 i1 i2 i3 i4 him hN1 B1 h3
  have S3 := S2.next hN2 (below1 w3 (Obj.cells #[.slice q1 0 c1, .int .u16 0, .int .u16 0, .slice q2 0 c2, .slice q3 0 c3] 30))
  have hN3 : N < (w3.alloc (Obj.cells #[.slice q1 0 c1, .int .u16 0, .int .u16 0, .slice q2 0 c2, .slice q3 0 c3] 30)).heap.size := by simp; omega
  have B3 := Lib.hid (below_alloc B2.out (Obj.cells #[.slice q1 0 c1, .int .u16 0, .int .u16 0, .slice q2 0 c2, .slice q3 0 c3] 30))
  clear S2 B2
  obtain ⟨i0, i1, i2, i3, i4, him⟩ := S3
  go_wp2_with fail
  generalize w3.alloc (Obj.cells #[.slice q1 0 c1, .int .u16 0, .int .u16 0, .slice q2 0 c2, .slice q3 0 c3] 30) = W4 at *
  refine (off_ex p1 p2 p3 _ him.out).mono ?_
  rintro e w5 ⟨rfl, h5⟩
  have S5 := SanAt.next ⟨i0, i1, i2, i3, i4, him⟩ hN3 h5
  have hN5 : N < w5.heap.size := by have := h5.size; omega
  have B5 := Lib.hid (below_next B3.out h5)
  clear i0 i1 i2 i3 i4 him hN3 B3 h5
  obtain ⟨i0, i1, i2, i3, i4, him⟩ := S5
  go_wp2_with fail
  refine (obj_ex p1 p2 p3 _ him.out).mono ?_
  rintro e w6 ⟨rfl, h6⟩
  have S6 := SanAt.next ⟨i0, i1, i2, i3, i4, him⟩ hN5 h6
  have hN6 : N < w6.heap.size := by have := h6.size; omega
  have B6 := Lib.hid (below_next B5.out h6)
  clear i0 i1 i2 i3 i4 him hN5 B5 h6
  obtain ⟨i0, i1, i2, i3, i4, him⟩ := S6
  go_wp2_with fail
  refine (check_ex p1 p2 p3 _ him.out).mono ?_
  rintro e w7 ⟨rfl, h7⟩
  have S7 := SanAt.next ⟨i0, i1, i2, i3, i4, him⟩ hN6 h7
  have hN7 : N < w7.heap.size := by have := h7.size; omega
  have B7 := Lib.hid (below_next B6.out h7)
  clear i0 i1 i2 i3 i4 him hN6 B6 h7
  obtain ⟨i0, i1, i2, i3, i4, him⟩ := S7
  go_wp2_with fail
  refine (code1_ex p1 p2 p3 _ him.out).mono ?_
  rintro e w8 ⟨rfl, h8⟩
  have S8 := SanAt.next ⟨i0, i1, i2, i3, i4, him⟩ hN7 h8
  have hN8 : N < w8.heap.size := by have := h8.size; omega
  have B8 := Lib.hid (below_next B7.out h8)
  clear i0 i1 i2 i3 i4 him hN7 B7 h8
  obtain ⟨i0, i1, i2, i3, i4, him⟩ := S8
  go_wp2_with fail
  refine (rel3_ex p1 p2 p3 _ him.out).mono ?_
  rintro e w9 ⟨rfl, h9⟩
  have S9 := SanAt.next ⟨i0, i1, i2, i3, i4, him⟩ hN8 h9
  have hN9 : N < w9.heap.size := by have := h9.size; omega
  have B9 := Lib.hid (below_next B8.out h9)
  clear i0 i1 i2 i3 i4 him hN8 B8 h9
  obtain ⟨i0, i1, i2, i3, i4, him⟩ := S9
  go_wp2_with fail
  refine (rel2_ex p1 p2 p3 _ him.out).mono ?_
  rintro e wA ⟨rfl, hA⟩
  go_wp2_with fail
  go_ret
  exact ⟨rfl, below_next B9.out hA⟩
end Go.Proofs.Ytgdiaaoekkdibaa
