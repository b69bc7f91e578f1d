/- Contracts of code, IsCode, Offset and its reference. -/
import Derived.Test.YtgdiaaoekkdibaaI1
import Derived.Test.YtgdiaaoekkdibaaI3
import Derived.Test.YtgdiaaoekkdibaaP1
namespace Go.Proofs.Ytgdiaaoekkdibaa
set_option linter.unusedVariables false
set_option linter.unusedSimpArgs false
open Go.RowKit
/-- A place in code. -/
def isCode (b a : Int) : Prop := 0 ≤ b ∧ b < 64 ∧ ((b = 0 ∧ a < 4096) ∨ (4096 ≤ a ∧ a < 8192))
instance (b a : Int) : Decidable (isCode b a) := by unfold isCode; infer_instance
theorem code_any (b a : Int) (B : Bool) (w : World) (hb : OkI64 b) (ha : OkU16 a) (hB : decide (isCode b a) = B) :
    Calls Try.prog 63 #[.agg #[.int .i64 b, .int .u16 a]] w fun e w' => e = .returned (.bool B) ∧ Below w.heap.size w w' := by
  obtain ⟨b0, b1⟩ := hb
  obtain ⟨a0, a1⟩ := ha
  have HB : Hid (B = true ↔ isCode b a) := by show _ ↔ _; rw [← hB]; exact decide_eq_true_iff
  clear hB
  go_enter Try.func63, Try.ntmps63
  go_wp2
  all_goals
    go_ret
    refine ⟨?_, below1 _ _⟩
    refine ret_bool ?_
    rw [Bool.eq_iff_iff, HB.out]
    unfold isCode
    simp
    try omega
theorem iscode_any (b a : Int) (B : Bool) (w : World) (hb : OkI64 b) (ha : OkU16 a) (hB : decide (isCode b a) = B) :
    Calls Try.prog 64 #[.agg #[.int .i64 b, .int .u16 a]] w fun e w' => e = .returned (.bool B) ∧ Below w.heap.size w w' := by
  obtain ⟨b0, b1⟩ := hb
  obtain ⟨a0, a1⟩ := ha
  have HB : Hid (B = true ↔ isCode b a) := by show _ ↔ _; rw [← hB]; exact decide_eq_true_iff
  clear hB
  go_enter Try.func64, Try.ntmps64
  go_wp2
  all_goals
    go_ret
    refine ⟨?_, below1 _ _⟩
    refine ret_bool ?_
    rw [Bool.eq_iff_iff, HB.out]
    unfold isCode
    simp
    try omega
def offI (banks : List ByteArray) (b a : Int) : Int × Int × Bool :=
  if isCode b a ∧ b < banks.length ∧ a % 4096 < ((banks[b.toNat]?).getD ⟨#[]⟩).size then (b, a % 4096, true) else (0, 0, false)
theorem offI_yes (banks : List ByteArray) (b a : Int) (s : ByteArray) (h : isCode b a) (h1 : b < banks.length) (h2 : banks[b.toNat]? = some s) (h3 : a % 4096 < s.size) : offI banks b a = (b, a % 4096, true) := by
  unfold offI; rw [if_pos]; rw [h2]; exact ⟨h, h1, h3⟩
theorem offI_no (banks : List ByteArray) (b a : Int) (h : ¬ isCode b a) : offI banks b a = (0, 0, false) := by
  unfold offI; rw [if_neg]; exact fun x => h x.1
theorem offI_no1 (banks : List ByteArray) (b a : Int) (h : ¬ b < banks.length) : offI banks b a = (0, 0, false) := by
  unfold offI; rw [if_neg]; exact fun x => h x.2.1
theorem offI_no2 (banks : List ByteArray) (b a : Int) (s : ByteArray) (h2 : banks[b.toNat]? = some s) (h : ¬ a % 4096 < s.size) : offI banks b a = (0, 0, false) := by
  unfold offI; rw [if_neg]; rw [h2]; exact fun x => h x.2.2
theorem trio_eq {x y : Int × Int × Bool} (h : x = y) : Ending.returned (.tuple #[.int .i64 x.1, .int .i64 x.2.1, .bool x.2.2]) = .returned (.tuple #[.int .i64 y.1, .int .i64 y.2.1, .bool y.2.2]) := by rw [h]
set_option maxHeartbeats 2000000 in
theorem offset_any (p1 : Option Addr) (c1 : Nat) (p2 : Option Addr) (c2 : Nat) (p3 : Option Addr) (c3 : Nat) (I : Img) (b a : Int) (w : World) (hI : ImgAt w p1 p2 p3 I) (hb : OkI64 b) (ha : OkU16 a) :
    Calls Try.prog 26 #[imgV p1 c1 p2 c2 p3 c3 I, .agg #[.int .i64 b, .int .u16 a]] w fun e w' => e = .returned (.tuple #[.int .i64 (offI I.banks b a).1, .int .i64 (offI I.banks b a).2.1, .bool (offI I.banks b a).2.2]) ∧ Below w.heap.size w w' := by
  obtain ⟨banks, entry, vector, data, l⟩ := I
  obtain ⟨h1, h2, h3, hE, hV, l1, l2, l3⟩ := hI
  dsimp only at h1 h2 h3 l1 l2 l3 hE hV
  show Calls Try.prog 26 #[.agg #[.slice p1 banks.length c1, .int .u16 entry, .int .u16 vector, .slice p2 data.length c2, .slice p3 l.length c3], .agg #[.int .i64 b, .int .u16 a]] w fun e w' => e = .returned (.tuple #[.int .i64 (offI banks b a).1, .int .i64 (offI banks b a).2.1, .bool (offI banks b a).2.2]) ∧ Below w.heap.size w w'
  obtain ⟨b0, b1⟩ := hb
  obtain ⟨a0, a1⟩ := ha
  unfold maxLen at l1
  have hW1 := below_alloc (below1 w (Obj.cells #[Value.slice p1 banks.length c1, Value.int IntKind.u16 entry, Value.int IntKind.u16 vector, Value.slice p2 data.length c2, Value.slice p3 l.length c3] 30)) (Obj.cells #[Value.int IntKind.i64 b, Value.int IntKind.u16 a] 55)
  have y0 : ((w.alloc (Obj.cells #[Value.slice p1 banks.length c1, Value.int IntKind.u16 entry, Value.int IntKind.u16 vector, Value.slice p2 data.length c2, Value.slice p3 l.length c3] 30)).alloc (Obj.cells #[Value.int IntKind.i64 b, Value.int IntKind.u16 a] 55)).cell? ⟨w.heap.size, 0, none⟩ = some (.slice p1 banks.length c1) := by simp [go_sem]
  have u0 : ((w.alloc (Obj.cells #[Value.slice p1 banks.length c1, Value.int IntKind.u16 entry, Value.int IntKind.u16 vector, Value.slice p2 data.length c2, Value.slice p3 l.length c3] 30)).alloc (Obj.cells #[Value.int IntKind.i64 b, Value.int IntKind.u16 a] 55)).cell? ⟨w.heap.size + 1, 0, none⟩ = some (.int .i64 b) := by simp [go_sem]
  have u1 : ((w.alloc (Obj.cells #[Value.slice p1 banks.length c1, Value.int IntKind.u16 entry, Value.int IntKind.u16 vector, Value.slice p2 data.length c2, Value.slice p3 l.length c3] 30)).alloc (Obj.cells #[Value.int IntKind.i64 b, Value.int IntKind.u16 a] 55)).cell? ⟨w.heap.size + 1, 1, none⟩ = some (.int .u16 a) := by simp [go_sem]
  have hsz : w.heap.size + 1 < ((w.alloc (Obj.cells #[Value.slice p1 banks.length c1, Value.int IntKind.u16 entry, Value.int IntKind.u16 vector, Value.slice p2 data.length c2, Value.slice p3 l.length c3] 30)).alloc (Obj.cells #[Value.int IntKind.i64 b, Value.int IntKind.u16 a] 55)).heap.size := by simp
  have hs0 : w.heap.size < ((w.alloc (Obj.cells #[Value.slice p1 banks.length c1, Value.int IntKind.u16 entry, Value.int IntKind.u16 vector, Value.slice p2 data.length c2, Value.slice p3 l.length c3] 30)).alloc (Obj.cells #[Value.int IntKind.i64 b, Value.int IntKind.u16 a] 55)).heap.size := by simp; omega
  have HS := Lib.hid (h1.kept hW1)
  have HW1 := Lib.hid hW1
  clear h1 h2 h3 hW1
  have HS1 := HS.out
  obtain ⟨M, hM⟩ : ∃ M, a % 4096 = M := ⟨_, rfl⟩
  have m0 : 0 ≤ M := by omega
  have m1 : M < 4096 := by omega
  have ht : a.tmod 4096 = M := by rw [Int.tmod_eq_emod_of_nonneg a0]; exact hM
  have hw : IntKind.u16.wrap M = M := wrap_in _ m0 (by omega)
  have hw2 : IntKind.i64.wrap M = M := IntWalk.i64_in _ (by omega)
  have HM := Lib.hid hM
  clear hM
  by_cases hc : isCode b a
  rotate_left
  · have HR := Lib.hid (offI_no banks b a hc)
    have HC := Lib.hid (show decide (isCode b a) = false from decide_eq_false hc)
    clear hc
    go_enter Try.func26, Try.ntmps26
    go_wp2_with (go_at_call 63; refine (code_any b a _ _ ⟨b0, b1⟩ ⟨a0, a1⟩ HC.out).mono ?_; rintro e w2 ⟨rfl, h2⟩; have z0 := (h2.cell (p := ⟨w.heap.size, 0, none⟩) hs0).trans y0; have v0 := (h2.cell (p := ⟨w.heap.size + 1, 0, none⟩) hsz).trans u0; have v1 := (h2.cell (p := ⟨w.heap.size + 1, 1, none⟩) hsz).trans u1)
    go_ret3
    exact ⟨trio_eq (x := (0, 0, false)) HR.out.symm, below_next HW1.out h2⟩
  have HC := Lib.hid (show decide (isCode b a) = true from decide_eq_true hc)
  have b2 : 0 ≤ b := hc.1
  have Hc := Lib.hid hc
  clear hc
  by_cases hl : b < banks.length
  rotate_left
  · have HR := Lib.hid (offI_no1 banks b a hl)
    go_enter Try.func26, Try.ntmps26
    go_wp2_with (go_at_call 63; refine (code_any b a _ _ ⟨b0, b1⟩ ⟨a0, a1⟩ HC.out).mono ?_; rintro e w2 ⟨rfl, h2⟩; have z0 := (h2.cell (p := ⟨w.heap.size, 0, none⟩) hs0).trans y0; have v0 := (h2.cell (p := ⟨w.heap.size + 1, 0, none⟩) hsz).trans u0; have v1 := (h2.cell (p := ⟨w.heap.size + 1, 1, none⟩) hsz).trans u1)
    go_ret3
    exact ⟨trio_eq (x := (0, 0, false)) HR.out.symm, below_next HW1.out h2⟩
  obtain ⟨s, hs⟩ := at_some banks b.toNat (by omega)
  obtain ⟨B, rfl, hBs, e0, hss⟩ := HS.out b.toNat s hs
  have Hs := Lib.hid hs
  clear hs
  unfold maxLen at hss
  by_cases hm : M < s.size
  · have HR := Lib.hid (offI_yes banks b a s Hc.out hl Hs.out (by rw [HM.out]; exact hm))
    have HR : Hid (offI banks b a = (b, M, true)) := by show _ = _; rw [HR.out, HM.out]
    go_enter Try.func26, Try.ntmps26
    go_wp2_with (go_at_call 63; refine (code_any b a _ _ ⟨b0, b1⟩ ⟨a0, a1⟩ HC.out).mono ?_; rintro e w2 ⟨rfl, h2⟩; have z0 := (h2.cell (p := ⟨w.heap.size, 0, none⟩) hs0).trans y0; have v0 := (h2.cell (p := ⟨w.heap.size + 1, 0, none⟩) hsz).trans u0; have v1 := (h2.cell (p := ⟨w.heap.size + 1, 1, none⟩) hsz).trans u1; have e1 := (h2.cell hBs).trans e0)
    go_ret3
    exact ⟨trio_eq (x := (b, M, true)) HR.out.symm, below_next HW1.out h2⟩
  · have HR := Lib.hid (offI_no2 banks b a s Hs.out (by rw [HM.out]; exact hm))
    go_enter Try.func26, Try.ntmps26
    go_wp2_with (go_at_call 63; refine (code_any b a _ _ ⟨b0, b1⟩ ⟨a0, a1⟩ HC.out).mono ?_; rintro e w2 ⟨rfl, h2⟩; have z0 := (h2.cell (p := ⟨w.heap.size, 0, none⟩) hs0).trans y0; have v0 := (h2.cell (p := ⟨w.heap.size + 1, 0, none⟩) hsz).trans u0; have v1 := (h2.cell (p := ⟨w.heap.size + 1, 1, none⟩) hsz).trans u1; have e1 := (h2.cell hBs).trans e0)
    go_ret3
    exact ⟨trio_eq (x := (0, 0, false)) HR.out.symm, below_next HW1.out h2⟩
set_option maxHeartbeats 2000000 in
theorem roffset_any (p1 : Option Addr) (c1 : Nat) (p2 : Option Addr) (c2 : Nat) (p3 : Option Addr) (c3 : Nat) (I : Img) (b a : Int) (w : World) (hI : ImgAt w p1 p2 p3 I) (hb : OkI64 b) (ha : OkU16 a) :
    Calls Try.prog 27 #[imgV p1 c1 p2 c2 p3 c3 I, .agg #[.int .i64 b, .int .u16 a]] w fun e w' => e = .returned (.tuple #[.int .i64 (offI I.banks b a).1, .int .i64 (offI I.banks b a).2.1, .bool (offI I.banks b a).2.2]) ∧ Below w.heap.size w w' := by
  obtain ⟨banks, entry, vector, data, l⟩ := I
  obtain ⟨h1, h2, h3, hE, hV, l1, l2, l3⟩ := hI
  dsimp only at h1 h2 h3 l1 l2 l3 hE hV
  show Calls Try.prog 27 #[.agg #[.slice p1 banks.length c1, .int .u16 entry, .int .u16 vector, .slice p2 data.length c2, .slice p3 l.length c3], .agg #[.int .i64 b, .int .u16 a]] w fun e w' => e = .returned (.tuple #[.int .i64 (offI banks b a).1, .int .i64 (offI banks b a).2.1, .bool (offI banks b a).2.2]) ∧ Below w.heap.size w w'
  obtain ⟨b0, b1⟩ := hb
  obtain ⟨a0, a1⟩ := ha
  unfold maxLen at l1
  have hW1 := below_alloc (below1 w (Obj.cells #[Value.slice p1 banks.length c1, Value.int IntKind.u16 entry, Value.int IntKind.u16 vector, Value.slice p2 data.length c2, Value.slice p3 l.length c3] 30)) (Obj.cells #[Value.int IntKind.i64 b, Value.int IntKind.u16 a] 55)
  have y0 : ((w.alloc (Obj.cells #[Value.slice p1 banks.length c1, Value.int IntKind.u16 entry, Value.int IntKind.u16 vector, Value.slice p2 data.length c2, Value.slice p3 l.length c3] 30)).alloc (Obj.cells #[Value.int IntKind.i64 b, Value.int IntKind.u16 a] 55)).cell? ⟨w.heap.size, 0, none⟩ = some (.slice p1 banks.length c1) := by simp [go_sem]
  have u0 : ((w.alloc (Obj.cells #[Value.slice p1 banks.length c1, Value.int IntKind.u16 entry, Value.int IntKind.u16 vector, Value.slice p2 data.length c2, Value.slice p3 l.length c3] 30)).alloc (Obj.cells #[Value.int IntKind.i64 b, Value.int IntKind.u16 a] 55)).cell? ⟨w.heap.size + 1, 0, none⟩ = some (.int .i64 b) := by simp [go_sem]
  have u1 : ((w.alloc (Obj.cells #[Value.slice p1 banks.length c1, Value.int IntKind.u16 entry, Value.int IntKind.u16 vector, Value.slice p2 data.length c2, Value.slice p3 l.length c3] 30)).alloc (Obj.cells #[Value.int IntKind.i64 b, Value.int IntKind.u16 a] 55)).cell? ⟨w.heap.size + 1, 1, none⟩ = some (.int .u16 a) := by simp [go_sem]
  have hsz : w.heap.size + 1 < ((w.alloc (Obj.cells #[Value.slice p1 banks.length c1, Value.int IntKind.u16 entry, Value.int IntKind.u16 vector, Value.slice p2 data.length c2, Value.slice p3 l.length c3] 30)).alloc (Obj.cells #[Value.int IntKind.i64 b, Value.int IntKind.u16 a] 55)).heap.size := by simp
  have hs0 : w.heap.size < ((w.alloc (Obj.cells #[Value.slice p1 banks.length c1, Value.int IntKind.u16 entry, Value.int IntKind.u16 vector, Value.slice p2 data.length c2, Value.slice p3 l.length c3] 30)).alloc (Obj.cells #[Value.int IntKind.i64 b, Value.int IntKind.u16 a] 55)).heap.size := by simp; omega
  have HS := Lib.hid (h1.kept hW1)
  have HW1 := Lib.hid hW1
  clear h1 h2 h3 hW1
  have HS1 := HS.out
  obtain ⟨M, hM⟩ : ∃ M, a % 4096 = M := ⟨_, rfl⟩
  have m0 : 0 ≤ M := by omega
  have m1 : M < 4096 := by omega
  have ht : a.tmod 4096 = M := by rw [Int.tmod_eq_emod_of_nonneg a0]; exact hM
  have hw : IntKind.u16.wrap M = M := wrap_in _ m0 (by omega)
  have hw2 : IntKind.i64.wrap M = M := IntWalk.i64_in _ (by omega)
  have HM := Lib.hid hM
  clear hM
  by_cases hc : isCode b a
  rotate_left
  · have HR := Lib.hid (offI_no banks b a hc)
    have HC := Lib.hid (show decide (isCode b a) = false from decide_eq_false hc)
    clear hc
    go_enter Try.func27, Try.ntmps27
    go_wp2_with (go_at_call 64; refine (iscode_any b a _ _ ⟨b0, b1⟩ ⟨a0, a1⟩ HC.out).mono ?_; rintro e w2 ⟨rfl, h2⟩; have z0 := (h2.cell (p := ⟨w.heap.size, 0, none⟩) hs0).trans y0; have v0 := (h2.cell (p := ⟨w.heap.size + 1, 0, none⟩) hsz).trans u0; have v1 := (h2.cell (p := ⟨w.heap.size + 1, 1, none⟩) hsz).trans u1)
    go_ret3
    exact ⟨trio_eq (x := (0, 0, false)) HR.out.symm, below_next HW1.out h2⟩
  have HC := Lib.hid (show decide (isCode b a) = true from decide_eq_true hc)
  have b2 : 0 ≤ b := hc.1
  have Hc := Lib.hid hc
  clear hc
  by_cases hl : b < banks.length
  rotate_left
  · have HR := Lib.hid (offI_no1 banks b a hl)
    go_enter Try.func27, Try.ntmps27
    go_wp2_with (go_at_call 64; refine (iscode_any b a _ _ ⟨b0, b1⟩ ⟨a0, a1⟩ HC.out).mono ?_; rintro e w2 ⟨rfl, h2⟩; have z0 := (h2.cell (p := ⟨w.heap.size, 0, none⟩) hs0).trans y0; have v0 := (h2.cell (p := ⟨w.heap.size + 1, 0, none⟩) hsz).trans u0; have v1 := (h2.cell (p := ⟨w.heap.size + 1, 1, none⟩) hsz).trans u1)
    go_ret3
    exact ⟨trio_eq (x := (0, 0, false)) HR.out.symm, below_next HW1.out h2⟩
  obtain ⟨s, hs⟩ := at_some banks b.toNat (by omega)
  obtain ⟨B, rfl, hBs, e0, hss⟩ := HS.out b.toNat s hs
  have Hs := Lib.hid hs
  clear hs
  unfold maxLen at hss
  by_cases hm : M < s.size
  · have HR := Lib.hid (offI_yes banks b a s Hc.out hl Hs.out (by rw [HM.out]; exact hm))
    have HR : Hid (offI banks b a = (b, M, true)) := by show _ = _; rw [HR.out, HM.out]
    go_enter Try.func27, Try.ntmps27
    go_wp2_with (go_at_call 64; refine (iscode_any b a _ _ ⟨b0, b1⟩ ⟨a0, a1⟩ HC.out).mono ?_; rintro e w2 ⟨rfl, h2⟩; have z0 := (h2.cell (p := ⟨w.heap.size, 0, none⟩) hs0).trans y0; have v0 := (h2.cell (p := ⟨w.heap.size + 1, 0, none⟩) hsz).trans u0; have v1 := (h2.cell (p := ⟨w.heap.size + 1, 1, none⟩) hsz).trans u1; have e1 := (h2.cell hBs).trans e0)
    go_ret3
    exact ⟨trio_eq (x := (b, M, true)) HR.out.symm, below_next HW1.out h2⟩
  · have HR := Lib.hid (offI_no2 banks b a s Hs.out (by rw [HM.out]; exact hm))
    go_enter Try.func27, Try.ntmps27
    go_wp2_with (go_at_call 64; refine (iscode_any b a _ _ ⟨b0, b1⟩ ⟨a0, a1⟩ HC.out).mono ?_; rintro e w2 ⟨rfl, h2⟩; have z0 := (h2.cell (p := ⟨w.heap.size, 0, none⟩) hs0).trans y0; have v0 := (h2.cell (p := ⟨w.heap.size + 1, 0, none⟩) hsz).trans u0; have v1 := (h2.cell (p := ⟨w.heap.size + 1, 1, none⟩) hsz).trans u1; have e1 := (h2.cell hBs).trans e0)
    go_ret3
    exact ⟨trio_eq (x := (0, 0, false)) HR.out.symm, below_next HW1.out h2⟩
end Go.Proofs.Ytgdiaaoekkdibaa
