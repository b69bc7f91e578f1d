/- The chapter's example image: the contract of example. -/
import Derived.Test.YtgdiaaoekkdibaaI18
import Derived.Test.YtgdiaaoekkdibaaB3
import Derived.Test.YtgdiaaoekkdibaaP2
import Derived.Deep.OwnRows
namespace Go.Proofs.Ytgdiaaoekkdibaa
set_option linter.unusedVariables false
set_option linter.unusedSimpArgs false
open Go.RowKit
def zrow : Array Value := madeCells #[.int .u8 0] 4096
theorem make_run (w : World) : (Instr.makeSlice 36 (.int .i64 4096) (.int .i64 4096)).run Try.prog w = .ok (.slice (some ⟨w.heap.size, 0, none⟩) 4096 4096) (w.alloc (.cells zrow 5)) :=
  run_make_row' (P := Try.prog) 36 5 (.int .u8 0) 1 Try.underlying36 infoByte rfl .i64 .i64 4096 (by decide) (by decide) w
theorem zrow_is (w : World) : (w.alloc (.cells zrow 5)).rowIs w.heap.size 5 4096 (fun _ => .int .u8 0) := World.rowIs_made _ _ _ _
def exB (i : Nat) : UInt8 := if i = 3 then 64 else if i = 2 then 2 else 0
def exL : List UInt8 := (List.range 4096).map exB
theorem exL_len : exL.length = 4096 := by unfold exL; rw [List.length_map, List.length_range]
def exS : ByteArray := bytesOf exL
theorem exS_size : exS.size = 4096 := (bytesOf_size exL).trans exL_len
theorem zrow_at (i : Nat) (h : i < 4096) : zrow[i]? = some (.int .u8 0) := by unfold zrow madeCells; simp [h, Nat.mod_one]
def exrow : Array Value := (zrow.setIfInBounds 2 (.int .u8 2)).setIfInBounds 3 (.int .u8 64)
theorem exrow_at (i : Nat) (h : i < 4096) : exrow[i]? = some (.int .u8 ((exB i).toNat : Int)) := by
  have hz : zrow.size = 4096 := size_madeCells _ _
  unfold exrow exB
  rw [Array.getElem?_setIfInBounds]
  by_cases h3 : i = 3
  · subst h3; simp [hz]
  · rw [if_neg (fun e => h3 e.symm), if_neg h3, Array.getElem?_setIfInBounds]
    by_cases h2 : i = 2
    · subst h2; simp [hz]
    · rw [if_neg (fun e => h2 e.symm), if_neg h2, zrow_at i h]; rfl
theorem exL_at (j : Nat) (h : j < 4096) : exL[j]? = some (exB j) := by
  unfold exL; rw [List.getElem?_map, List.getElem?_range h]; rfl
theorem ex_conv (W : World) : (convert 36 9 (.slice (some ⟨W.heap.size, 0, none⟩) 4096 4096)).run Try.prog (W.alloc (.cells exrow 5)) = .ok (.string exS) (W.alloc (.cells exrow 5)) := by
  have h := run_convert_bytes_back (P := Try.prog) (W.alloc (.cells exrow 5)) 36 9 5 ⟨W.heap.size, 0, none⟩ 4096 exL Try.underlying36 Try.underlying5 Try.underlying9 (by
    intro j hj
    have hl := exL_len
    have hj' : j < 4096 := by omega
    have e1 := exL_at j hj'
    rw [List.getElem?_eq_getElem hj] at e1
    have ea : (⟨W.heap.size, 0, none⟩ : Addr).add j = ⟨W.heap.size, j, none⟩ := by simp [Addr.add]; exact fun h => h.symm
    rw [Option.some.inj e1, ea, Lib.cell_of_heap (alloc_at W (.cells exrow 5))]
    exact exrow_at j hj')
  rw [exL_len] at h
  exact h
def exI : Img := ⟨[exS], 16, 0, [⟨-1, 16384, 4⟩], [⟨0, 2⟩]⟩
theorem ex_at (W : World) (B : Nat) (h2 : W.cell? ⟨B, 0, none⟩ = some (.string exS)) (h30 : W.cell? ⟨B + 1, 0, none⟩ = some (.int .i64 (-1))) (h31 : W.cell? ⟨B + 1, 1, none⟩ = some (.int .u16 16384)) (h32 : W.cell? ⟨B + 1, 2, none⟩ = some (.int .u16 4))
    (h40 : W.cell? ⟨B + 2, 0, none⟩ = some (.int .i64 0)) (h41 : W.cell? ⟨B + 2, 1, none⟩ = some (.int .u16 2)) (hz : B + 3 ≤ W.heap.size) : ImgAt W (some ⟨B, 0, none⟩) (some ⟨B + 1, 0, none⟩) (some ⟨B + 2, 0, none⟩) exI := by
  refine ⟨?_, ?_, ?_, ⟨by decide, by decide⟩, ⟨by decide, by decide⟩, by decide, by decide, by decide⟩
  · intro k s hk
    obtain rfl : k = 0 := by
      have := (List.getElem?_eq_some_iff.1 hk).1
      simp [exI] at this; exact this
    obtain rfl : exS = s := by simpa [exI] using hk
    exact ⟨B, rfl, by omega, h2, by rw [exS_size]; decide⟩
  · intro k o hk
    obtain rfl : k = 0 := by
      have := (List.getElem?_eq_some_iff.1 hk).1
      simp [exI] at this; exact this
    obtain rfl : (⟨-1, 16384, 4⟩ : ObjI) = o := by simpa [exI] using hk
    exact ⟨B + 1, rfl, by omega, h30, h31, h32, ⟨by decide, by decide⟩, ⟨by decide, by decide⟩, ⟨by decide, by decide⟩⟩
  · intro k o hk
    obtain rfl : k = 0 := by
      have := (List.getElem?_eq_some_iff.1 hk).1
      simp [exI] at this; exact this
    obtain rfl : (⟨0, 2⟩ : RelI) = o := by simpa [exI] using hk
    exact ⟨B + 2, rfl, by omega, h40, h41, ⟨by decide, by decide⟩, ⟨by decide, by decide⟩⟩
set_option maxRecDepth 8000 in
set_option maxHeartbeats 800000 in
theorem example_any (w : World) :
    Calls Try.prog 42 #[] w fun e w' => e = .returned (.agg #[.slice (some ⟨w.heap.size + 2, 0, none⟩) 1 1, .int .u16 16, .int .u16 0, .slice (some ⟨w.heap.size + 3, 0, none⟩) 1 1, .slice (some ⟨w.heap.size + 4, 0, none⟩) 1 1]) ∧ ImgAt w' (some ⟨w.heap.size + 2, 0, none⟩) (some ⟨w.heap.size + 3, 0, none⟩) (some ⟨w.heap.size + 4, 0, none⟩) exI ∧ Below w.heap.size w w' := by
  have hmk := make_run
  have z2 := zrow_at 2 (by decide)
  have z3 : (zrow.setIfInBounds 2 (.int .u8 2))[3]? = some (.int .u8 0) := by rw [Array.getElem?_setIfInBounds, if_neg (by decide)]; exact zrow_at 3 (by decide)
  have z3b := zrow_at 3 (by decide)
  have hcv := ex_conv (w.alloc (Obj.cells #[Value.slice none 0 0, Value.int IntKind.u16 0, Value.int IntKind.u16 0, Value.slice none 0 0, Value.slice none 0 0] 30))
  have hsz : (w.alloc (Obj.cells #[Value.slice none 0 0, Value.int IntKind.u16 0, Value.int IntKind.u16 0, Value.slice none 0 0, Value.slice none 0 0] 30)).heap.size = w.heap.size + 1 := by simp
  rw [hsz] at hcv
  unfold exrow at hcv
  clear hsz
  go_enter Try.func42, Try.ntmps42
  go_wp2_with fail
  refine bodyPost_ret (v := .agg #[.slice (some ⟨w.heap.size + 2, 0, none⟩) 1 1, .int .u16 16, .int .u16 0, .slice (some ⟨w.heap.size + 3, 0, none⟩) 1 1, .slice (some ⟨w.heap.size + 4, 0, none⟩) 1 1]) (by simp [results, Try.results42, go_sem]) rfl ⟨rfl, ?_, ?_⟩
  · exact ex_at _ (w.heap.size + 2) (by simp [go_sem]) (by simp [go_sem]) (by simp [go_sem]) (by simp [go_sem]) (by simp [go_sem]) (by simp [go_sem]) (by simp)
  · exact below_alloc (below_alloc (below_alloc (below_alloc (below1 _ _) _) _) _) _
end Go.Proofs.Ytgdiaaoekkdibaa
