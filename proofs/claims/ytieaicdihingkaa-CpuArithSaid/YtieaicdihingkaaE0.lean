/- The reference's Encode: format, size and the small tests. -/
import Derived.Test.YtieaicdihingkaaK32
namespace Go.Proofs.Ytieaicdihingkaa
set_option linter.unusedVariables false
set_option linter.unusedSimpArgs false
open Go.RowKit
/-- The operations whose format is asked for, with format and size. -/
def fmtsL : List (Int × Int × Int) := [(16, 2, 2), (17, 2, 2), (20, 3, 2), (21, 3, 2), (162, 18, 3), (160, 15, 3), (5, 1, 1), (1, 1, 1)]
theorem al_blk' {w W : World} {o : Obj} (e : w.alloc o = W) : W.heap[w.heap.size]? = some o := e ▸ alloc_at w _
set_option maxRecDepth 20000 in
set_option maxHeartbeats 4000000 in
theorem format_at (op f z : Int) (w : World) (h : (op, f, z) ∈ fmtsL) : Calls Try.prog 26 #[.int .i64 op] w (fun e w' => e = .returned (.int .i64 f) ∧ Below w.heap.size w w') := by
 simp only [fmtsL, List.mem_cons, Prod.mk.injEq, List.not_mem_nil, or_false] at h
 rcases h with ⟨rfl, rfl, rfl⟩ | ⟨rfl, rfl, rfl⟩ | ⟨rfl, rfl, rfl⟩ | ⟨rfl, rfl, rfl⟩ | ⟨rfl, rfl, rfl⟩ | ⟨rfl, rfl, rfl⟩ | ⟨rfl, rfl, rfl⟩ | ⟨rfl, rfl, rfl⟩
 all_goals
  go_enter Try.func26, Try.ntmps26
  go_wp2_with fail
  first
  | exact bodyPost_ret (v := .int .i64 _) (by simp [results, Try.results26, go_sem]; rfl) rfl ⟨rfl, below1 _ _⟩
  | exact bodyPost_ret (v := .int .i64 2) (by simp [results, Try.results26, go_sem]) rfl ⟨rfl, Below.refl _ _⟩
  | exact bodyPost_ret (v := .int .i64 3) (by simp [results, Try.results26, go_sem]) rfl ⟨rfl, Below.refl _ _⟩
  | exact bodyPost_ret (v := .int .i64 1) (by simp [results, Try.results26, go_sem]) rfl ⟨rfl, Below.refl _ _⟩
def sizesC : Array Value := #[.int .i64 0, .int .i64 1, .int .i64 2, .int .i64 2, .int .i64 2, .int .i64 3, .int .i64 4, .int .i64 3, .int .i64 4, .int .i64 4, .int .i64 2, .int .i64 3, .int .i64 4, .int .i64 7, .int .i64 4, .int .i64 3, .int .i64 5, .int .i64 6, .int .i64 3]
theorem info121 : (Try.prog.info? 121).map (·.size) = some 19 := by kernel_rfl
set_option maxRecDepth 20000 in
set_option maxHeartbeats 4000000 in
theorem rsize_at (op f z : Int) (w : World) (h : (op, f, z) ∈ fmtsL) : Calls Try.prog 44 #[.int .u8 op] w (fun e w' => e = .returned (.int .i64 z) ∧ Below w.heap.size w w') := by
 have HF := Lib.hid fun W => format_at op f z W h
 have ho : IntKind.i64.wrap op = op ∧ 0 ≤ op ∧ op < 256 := by
  simp only [fmtsL, List.mem_cons, Prod.mk.injEq, List.not_mem_nil, or_false] at h
  rcases h with ⟨rfl, rfl, rfl⟩ | ⟨rfl, rfl, rfl⟩ | ⟨rfl, rfl, rfl⟩ | ⟨rfl, rfl, rfl⟩ | ⟨rfl, rfl, rfl⟩ | ⟨rfl, rfl, rfl⟩ | ⟨rfl, rfl, rfl⟩ | ⟨rfl, rfl, rfl⟩ <;> decide
 have H := Lib.hid h
 have o1 := ho.1
 clear h ho
 go_enter Try.func44, Try.ntmps44
 go_wp2_with (refine wpList_store_row 121 _ _ rfl rfl w.heap.size rfl sizesC rfl (alloc_at w _) info121 rfl (by simp [sizesC, Value.oneCell']) ?_; refine Hid.out ?_)
 generalize e1 : World.setRow _ _ _ = W1
 have HA1 := Lib.hid (show W1.heap[w.heap.size]? = some (.cells sizesC 121 (0, 0)) from e1 ▸ setRow_heap _ _ _ _ _ _ (alloc_at w _))
 have HB1 := Lib.hid (show Below w.heap.size w W1 from e1 ▸ setRow_below (below1 w _) (Nat.le_refl _))
 refine Lib.hid ?_
 clear e1
 go_wp2_with fail
 refine (HF.out _).mono ?_
 rintro e w2 ⟨rfl, h2⟩
 have HB2 := Lib.hid (below_next HB1.out h2)
 have hh := (h2.block _ (Array.getElem?_eq_some_iff.1 HA1.out).1).trans HA1.out
 obtain ⟨j, rfl, hj, hz⟩ : ∃ j : Nat, f = (j : Int) ∧ j < 19 ∧ sizesC[j]? = some (.int .i64 z) := by
  have h := H.out
  simp only [fmtsL, List.mem_cons, Prod.mk.injEq, List.not_mem_nil, or_false] at h
  rcases h with ⟨rfl, rfl, rfl⟩ | ⟨rfl, rfl, rfl⟩ | ⟨rfl, rfl, rfl⟩ | ⟨rfl, rfl, rfl⟩ | ⟨rfl, rfl, rfl⟩ | ⟨rfl, rfl, rfl⟩ | ⟨rfl, rfl, rfl⟩ | ⟨rfl, rfl, rfl⟩
  all_goals first | exact ⟨2, rfl, by decide, rfl⟩ | exact ⟨3, rfl, by decide, rfl⟩ | exact ⟨18, rfl, by decide, rfl⟩ | exact ⟨15, rfl, by decide, rfl⟩ | exact ⟨1, rfl, by decide, rfl⟩
 have c1 : w2.cell? ⟨w.heap.size, j, none⟩ = some (.int .i64 z) := (Lib.cell_of_heap hh j).trans hz
 have i0 : (0 : Int) ≤ (j : Int) := by omega
 have i1 : (j : Int) < 19 := by omega
 clear hz hh h2
 go_wp2_with fail
 exact bodyPost_ret (v := .int .i64 z) (by simp [results, Try.results44, go_sem]) rfl ⟨rfl, HB2.out⟩
theorem reg_any' (n : Int) (b : Bool) (w : World) (h0 : decide (0 ≤ n) = true) (h : decide (n < 8) = b) : Calls Try.prog 45 #[.int .i64 n] w fun e w' => e = .returned (.bool b) ∧ w = w' := by
 go_enter Try.func45, Try.ntmps45
 go_wp2_with fail
 exact bodyPost_ret (v := .bool b) (by simp [results, Try.results45, go_sem]) rfl ⟨rfl, rfl⟩
theorem rsgn_any (n : Int) (b c : Bool) (w : World) (h0 : decide (n < 128) = b) (h : decide (65408 ≤ n) = c) : Calls Try.prog 46 #[.int .u16 n] w fun e w' => e = .returned (.bool (b || c)) ∧ w = w' := by
 go_enter Try.func46, Try.ntmps46
 cases b
 ·go_wp2_with fail
  exact bodyPost_ret (v := .bool c) (by simp [results, Try.results46, go_sem]) rfl ⟨rfl, rfl⟩
 ·go_wp2_with fail
  exact bodyPost_ret (v := .bool true) (by simp [results, Try.results46, go_sem]) rfl ⟨rfl, rfl⟩
theorem two_any (n : Int) (w : World) (h0 : 0 ≤ n) (h1 : n < 65536) : Calls Try.prog 28 #[.int .u16 n] w fun e w' => e = .returned (.slice (some ⟨w.heap.size, 0, none⟩) 2 2) ∧ w' = w.alloc (.cells #[.int .u8 (n % 256), .int .u8 (n / 256)] 5) := by
 go_enter Try.func28, Try.ntmps28
 go_wp2_with fail
 exact bodyPost_ret (v := .slice (some ⟨w.heap.size, 0, none⟩) 2 2) (by simp [results, Try.results28, go_sem]) rfl ⟨rfl, rfl⟩
end Go.Proofs.Ytieaicdihingkaa
