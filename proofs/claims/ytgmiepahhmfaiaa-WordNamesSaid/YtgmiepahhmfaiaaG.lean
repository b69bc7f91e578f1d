/- The contracts of CondName and CondOf, and of their reference. -/
import Derived.Test.YtgmiepahhmfaiaaA
import Derived.Lib.Hide
import Derived.Deep.WholeRow
import Derived.Test.YtgmiepahhmfaiaaE
namespace Go.Proofs.Ytgmiepahhmfaiaa
set_option linter.unusedVariables false
open Go.RowKit
def nm (k : Nat) : ByteArray := ([⟨#[101, 113]⟩, ⟨#[110, 101]⟩, ⟨#[99, 115]⟩, ⟨#[99, 99]⟩, ⟨#[109, 105]⟩, ⟨#[112, 108]⟩, ⟨#[118, 115]⟩, ⟨#[118, 99]⟩, ⟨#[104, 105]⟩, ⟨#[108, 115]⟩, ⟨#[103, 101]⟩, ⟨#[108, 116]⟩, ⟨#[103, 116]⟩, ⟨#[108, 101]⟩][k]?).getD ⟨#[]⟩
/-- The row of the fourteen names. -/
def nmRow : Array Value := #[.string ⟨#[101, 113]⟩, .string ⟨#[110, 101]⟩, .string ⟨#[99, 115]⟩, .string ⟨#[99, 99]⟩, .string ⟨#[109, 105]⟩, .string ⟨#[112, 108]⟩, .string ⟨#[118, 115]⟩, .string ⟨#[118, 99]⟩, .string ⟨#[104, 105]⟩, .string ⟨#[108, 115]⟩, .string ⟨#[103, 101]⟩, .string ⟨#[108, 116]⟩, .string ⟨#[103, 116]⟩, .string ⟨#[108, 101]⟩]
theorem k14 (k : Nat) (h : k < 14) : k = 0 ∨ k = 1 ∨ k = 2 ∨ k = 3 ∨ k = 4 ∨ k = 5 ∨ k = 6 ∨ k = 7 ∨ k = 8 ∨ k = 9 ∨ k = 10 ∨ k = 11 ∨ k = 12 ∨ k = 13 := by omega
theorem nmRow_at (k : Nat) (h : k < 14) : nmRow[k]? = some (.string (nm k)) := by
  rcases k14 k h with rfl | rfl | rfl | rfl | rfl | rfl | rfl | rfl | rfl | rfl | rfl | rfl | rfl | rfl
  all_goals rfl
theorem names_any (w : World) :
    Calls Try.prog 47 #[] w fun e w' => e = .returned (.agg nmRow) ∧ w.alloc (.cells nmRow 62) = w' := by
  go_enter Try.func47, Try.ntmps47
  go_wp2
  exact bodyPost_ret (v := .agg nmRow) (by simp [results, Try.results47, go_sem, nmRow]) rfl ⟨rfl, rfl⟩
theorem rnames_any (w : World) :
    Calls Try.prog 49 #[] w fun e w' => e = .returned (.slice (some ⟨w.heap.size, 0, none⟩) 14 14) ∧ w.alloc (.cells nmRow 9) = w' := by
  go_enter Try.func49, Try.ntmps49
  go_wp2
  go_ret
  exact ⟨rfl, rfl⟩
/-- The name of a condition. -/
def nameI (cc : Int) : ByteArray := if 0 ≤ cc ∧ cc < 14 then nm cc.toNat else ⟨#[]⟩
theorem nm_store (w : World) : (storeCells ⟨w.heap.size + 1, 0, none⟩ nmRow.toList).run Try.prog ((w.alloc (.cells nmRow 62)).alloc (Obj.cells #[Value.string { data := #[] }, Value.string { data := #[] }, Value.string { data := #[] }, Value.string { data := #[] }, Value.string { data := #[] }, Value.string { data := #[] }, Value.string { data := #[] }, Value.string { data := #[] }, Value.string { data := #[] }, Value.string { data := #[] }, Value.string { data := #[] }, Value.string { data := #[] }, Value.string { data := #[] }, Value.string { data := #[] }] 62)) =
    .ok () ((w.alloc (.cells nmRow 62)).alloc (Obj.cells nmRow 62)) := by
  have := run_storeCells_new (P := Try.prog) (w.alloc (.cells nmRow 62)) 62 #[Value.string { data := #[] }, Value.string { data := #[] }, Value.string { data := #[] }, Value.string { data := #[] }, Value.string { data := #[] }, Value.string { data := #[] }, Value.string { data := #[] }, Value.string { data := #[] }, Value.string { data := #[] }, Value.string { data := #[] }, Value.string { data := #[] }, Value.string { data := #[] }, Value.string { data := #[] }, Value.string { data := #[] }] nmRow (by kernel_rfl) rfl (by kernel_rfl)
  rw [World.size_alloc] at this
  exact this
theorem below1 (w : World) (a : Obj) : Below w.heap.size w (w.alloc a) := (Below.refl _ _).alloc (Nat.le_refl _) _
theorem below2 (w : World) (a b : Obj) : Below w.heap.size w ((w.alloc a).alloc b) :=
  ((Below.refl _ _).alloc (Nat.le_refl _) _).alloc (by rw [World.size_alloc]; omega) _
set_option maxHeartbeats 400000 in
theorem condName_any (cc : Int) (w : World) (n0 : -9223372036854775808 ≤ cc) (n1 : cc ≤ 9223372036854775807) :
    Calls Try.prog 39 #[.int .i64 cc] w fun e w' => e = .returned (.string (nameI cc)) ∧ Below w.heap.size w w' := by
  have hst := nm_store w
  have hz : nmRow.size = 14 := rfl
  by_cases h : 0 ≤ cc ∧ cc < 14
  · have hN : nameI cc = nm cc.toNat := by unfold nameI; rw [if_pos h]
    rw [hN]; clear hN
    obtain ⟨h0, h1⟩ := h
    have hl := nmRow_at cc.toNat (by omega)
    have hl2 : ∀ h : cc.toNat < nmRow.size, nmRow[cc.toNat]'h = .string (nm cc.toNat) := fun h => by rw [Array.getElem?_eq_getElem h] at hl; exact Option.some.inj hl
    go_enter Try.func39, Try.ntmps39
    go_wp2_with fail
    refine (names_any _).mono ?_; rintro e w1 ⟨rfl, rfl⟩
    go_wp2_with fail
    go_ret
    exact ⟨rfl, below2 _ _ _⟩
  · have hN : nameI cc = ⟨#[]⟩ := by unfold nameI; rw [if_neg h]
    rw [hN]; clear hN
    have h' : cc < 0 ∨ 14 ≤ cc := by omega
    clear h
    rcases h' with h | h
    all_goals
      go_enter Try.func39, Try.ntmps39
      go_wp2_with fail
      refine (names_any _).mono ?_; rintro e w1 ⟨rfl, rfl⟩
      go_wp2_with fail
      go_ret
      exact ⟨rfl, below2 _ _ _⟩
set_option maxHeartbeats 400000 in
theorem rcondName_any (cc : Int) (w : World) (n0 : -9223372036854775808 ≤ cc) (n1 : cc ≤ 9223372036854775807) :
    Calls Try.prog 41 #[.int .i64 cc] w fun e w' => e = .returned (.string (nameI cc)) ∧ Below w.heap.size w w' := by
  by_cases h : 0 ≤ cc ∧ cc < 14
  · have hN : nameI cc = nm cc.toNat := by unfold nameI; rw [if_pos h]
    rw [hN]; clear hN
    obtain ⟨h0, h1⟩ := h
    have hl := nmRow_at cc.toNat (by omega)
    go_enter Try.func41, Try.ntmps41
    go_wp2_with fail
    refine (rnames_any _).mono ?_; rintro e w1 ⟨rfl, rfl⟩
    go_wp2_with fail
    go_ret
    exact ⟨rfl, (Below.refl _ _).alloc (Nat.le_refl _) _⟩
  · have hN : nameI cc = ⟨#[]⟩ := by unfold nameI; rw [if_neg h]
    rw [hN]; clear hN
    have h' : cc < 0 ∨ 14 ≤ cc := by omega
    clear h
    rcases h' with h | h
    all_goals
      go_enter Try.func41, Try.ntmps41
      go_wp2_with fail
      refine (rnames_any _).mono ?_; rintro e w1 ⟨rfl, rfl⟩
      go_wp2_with fail
      go_ret
      exact ⟨rfl, (Below.refl _ _).alloc (Nat.le_refl _) _⟩

theorem str_eq (s t : ByteArray) : (s.toList == t.toList) = decide (s = t) := by
  rw [← beq_toListBytes, Bool.eq_iff_iff, MapKept.bytes_beq]; simp
/-- Where a name stands among the fourteen: at or behind place k, within n places; -1 if nowhere. -/
def findI (s : ByteArray) : Nat → Nat → Int
  | _, 0 => -1
  | k, n + 1 => if s = nm k then k else findI s (k + 1) n
theorem findI_bd (s : ByteArray) : ∀ n k, -1 ≤ findI s k n ∧ findI s k n < k + n
  | 0, k => by unfold findI; omega
  | n + 1, k => by
    have := findI_bd s n (k + 1)
    unfold findI; split <;> omega
theorem findI_step (s : ByteArray) (k : Nat) (h : k < 14) (hn : s ≠ nm k) : findI s k (14 - k) = findI s (k + 1) (14 - (k + 1)) := by
  rw [show 14 - k = (14 - (k + 1)) + 1 from by omega]
  show (if s = nm k then (k : Int) else findI s (k + 1) (14 - (k + 1))) = _
  rw [if_neg hn]
theorem findI_hit (s : ByteArray) (k : Nat) (h : k < 14) (hn : s = nm k) : findI s k (14 - k) = k := by
  rw [show 14 - k = (14 - (k + 1)) + 1 from by omega]
  show (if s = nm k then (k : Int) else findI s (k + 1) (14 - (k + 1))) = _
  rw [if_pos hn]
set_option maxHeartbeats 400000 in
theorem index_any (s : ByteArray) (w : World) (B : Nat) (hc : ∀ k, k < 14 → w.cell? ⟨B, k, none⟩ = some (.string (nm k))) :
    Calls Try.prog 48 #[.slice (some ⟨B, 0, none⟩) 14 14, .string s] w fun e w' => e = .returned (.int .i64 (findI s 0 14)) ∧ w = w' := by
  have HC := Lib.hid hc
  clear hc
  go_enter Try.func48, Try.ntmps48
  go_wp2
  go_loop [8] (fun i => ∃ k : Nat, k ≤ 14 ∧ i = .int .i64 k ∧ findI s 0 14 = findI s k (14 - k)) (fun i => 14 - (intOf i).toNat)
  case atStart => exact ⟨0, by omega, rfl, rfl⟩
  case round =>
    obtain ⟨k, hk, rfl, hf⟩ := hrel
    have HF := Lib.hid hf
    clear hf
    by_cases hlt : k < 14
    · have hl := HC.out k hlt
      by_cases hs : s = nm k
      · have hb : (s.toList == (nm k).toList) = true := by rw [str_eq]; simpa using hs
        have hh := findI_hit s k hlt hs
        have HH := Lib.hid hh
        clear hh hs
        go_wp2
        go_ret
        refine ⟨ret_int ?_, rfl⟩
        rw [HF.out, HH.out]
      · have hb : (s.toList == (nm k).toList) = false := by rw [str_eq]; simpa using hs
        have hh := findI_step s k hlt hs
        have HH := Lib.hid hh
        clear hh hs
        go_wp2
        go_round
        case rel => exact ⟨k + 1, by omega, by go_num, by rw [HF.out, HH.out]⟩
        case measure => simp [intOf]; omega
    · obtain rfl : k = 14 := by omega
      go_wp2
      go_ret
      refine ⟨ret_int ?_, rfl⟩
      rw [HF.out]; rfl
theorem nm_cell (w : World) (k : Nat) : ((w.alloc (.cells nmRow 62)).alloc (.cells nmRow 62)).cell? ⟨w.heap.size + 1, k, none⟩ = nmRow[k]? := by
  have := World.cell?_alloc_new (w.alloc (.cells nmRow 62)) nmRow 62 k
  rw [World.size_alloc] at this
  exact this
def posI (s : ByteArray) : Int := if 0 ≤ findI s 0 14 then findI s 0 14 else 0
set_option maxHeartbeats 400000 in
theorem condOf_any (s : ByteArray) (w : World) :
    Calls Try.prog 38 #[.string s] w fun e w' => e = .returned (.tuple #[.int .i64 (posI s), .bool (decide (0 ≤ findI s 0 14))]) ∧ Below w.heap.size w w' := by
  have hst := nm_store w
  have hz : nmRow.size = 14 := rfl
  have hb := findI_bd s 14 0
  have hP := Lib.hid (show posI s = if 0 ≤ findI s 0 14 then findI s 0 14 else 0 from rfl)
  have HI : Hid (∀ w', (∀ k, k < 14 → w'.cell? ⟨w.heap.size + 1, k, none⟩ = some (.string (nm k))) → Calls Try.prog 48 #[.slice (some ⟨w.heap.size + 1, 0, none⟩) 14 14, .string s] w' fun e w'' => e = .returned (.int .i64 (findI s 0 14)) ∧ w' = w'') := fun w' h => index_any s w' _ h
  generalize findI s 0 14 = v at *
  by_cases hv : 0 ≤ v
  · rw [if_pos hv] at hP
    have HD := decide_eq_true hv
    go_enter Try.func38, Try.ntmps38
    go_wp2_with fail
    refine (names_any _).mono ?_; rintro e w1 ⟨rfl, rfl⟩
    go_wp2_with fail
    refine (HI.out _ (fun k hk => (nm_cell w k).trans (nmRow_at k hk))).mono ?_; rintro e w1 ⟨rfl, rfl⟩
    go_wp2_with fail
    go_ret2
    exact ⟨by rw [hP.out, HD]; rfl, below2 _ _ _⟩
  · rw [if_neg hv] at hP
    have HD := decide_eq_false hv
    go_enter Try.func38, Try.ntmps38
    go_wp2_with fail
    refine (names_any _).mono ?_; rintro e w1 ⟨rfl, rfl⟩
    go_wp2_with fail
    refine (HI.out _ (fun k hk => (nm_cell w k).trans (nmRow_at k hk))).mono ?_; rintro e w1 ⟨rfl, rfl⟩
    go_wp2_with fail
    go_ret2
    exact ⟨by rw [hP.out, HD]; rfl, below2 _ _ _⟩
set_option maxHeartbeats 400000 in
theorem rcondOf_any (s : ByteArray) (w : World) :
    Calls Try.prog 40 #[.string s] w fun e w' => e = .returned (.tuple #[.int .i64 (posI s), .bool (decide (0 ≤ findI s 0 14))]) ∧ Below w.heap.size w w' := by
  have hz : nmRow.size = 14 := rfl
  go_enter Try.func40, Try.ntmps40
  go_wp2_with fail
  refine (rnames_any _).mono ?_; rintro e w1 ⟨rfl, rfl⟩
  have HC : Hid (∀ k, k < 14 → (w.alloc (.cells nmRow 9)).cell? ⟨w.heap.size, k, none⟩ = some (.string (nm k))) :=
    fun k hk => (World.cell?_alloc_new w nmRow 9 k).trans (nmRow_at k hk)
  have hB := below1 w (.cells nmRow 9)
  generalize w.alloc (.cells nmRow 9) = w1 at *
  generalize w.heap.size = B at HC ⊢
  go_wp2_with fail
  go_loop [5] (fun i => ∃ k : Nat, k ≤ 14 ∧ i = .int .i64 k ∧ findI s 0 14 = findI s k (14 - k)) (fun i => 14 - (intOf i).toNat)
  case atStart => exact ⟨0, by omega, rfl, rfl⟩
  case round =>
    obtain ⟨k, hk, rfl, hf⟩ := hrel
    have HF := Lib.hid hf
    clear hf
    by_cases hlt : k < 14
    · have hl := HC.out k hlt
      by_cases hs : s = nm k
      · have hb : ((nm k).toList == s.toList) = true := by rw [str_eq]; simpa using hs.symm
        have hh := findI_hit s k hlt hs
        have HH := Lib.hid hh
        clear hh hs
        go_wp2
        go_ret2
        refine ⟨?_, hB⟩
        have e1 : findI s 0 14 = k := HF.out.trans HH.out
        unfold posI; rw [e1, if_pos (by omega), decide_eq_true (by omega)]; rfl
      · have hb : ((nm k).toList == s.toList) = false := by rw [str_eq]; simpa using fun h => hs h.symm
        have hh := findI_step s k hlt hs
        have HH := Lib.hid hh
        clear hh hs
        go_wp2
        go_round
        case rel => exact ⟨k + 1, by omega, by go_num, by rw [HF.out, HH.out]⟩
        case measure => simp [intOf]; omega
    · obtain rfl : k = 14 := by omega
      go_wp2
      go_ret2
      refine ⟨?_, hB⟩
      have e1 : findI s 0 14 = -1 := HF.out.trans rfl
      unfold posI; rw [e1, if_neg (by omega), decide_eq_false (by omega)]; rfl
end Go.Proofs.Ytgmiepahhmfaiaa
