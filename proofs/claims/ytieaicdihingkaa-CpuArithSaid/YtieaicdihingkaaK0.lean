/- image: code, Offset and Code of the program. -/
import Derived.Test.YtieaicdihingkaaRR
import Derived.Test.YtieaicdihingkaaC6
namespace Go.Proofs.Ytieaicdihingkaa
set_option linter.unusedVariables false
set_option linter.unusedSimpArgs false
open Go.RowKit
def OkI64 (n : Int) : Prop := -9223372036854775808 ≤ n ∧ n ≤ 9223372036854775807
def OkU16 (n : Int) : Prop := 0 ≤ n ∧ n < 65536
def StrsAt (w : World) (a : Option Addr) (l : List ByteArray) : Prop :=
 ∀ k s, l[k]? = some s → ∃ B, a = some ⟨B, 0, none⟩ ∧ B < w.heap.size ∧ w.cell? ⟨B, k, none⟩ = some (.string s) ∧ s.size ≤ maxLen
theorem StrsAt.kept {w w' : World} {a : Option Addr} {l : List ByteArray} (h : StrsAt w a l) (hb : Below w.heap.size w w') : StrsAt w' a l := by
 intro k o hk
 obtain ⟨B, e, hB, c0, ok⟩ := h k o hk
 exact ⟨B, e, Nat.lt_of_lt_of_le hB hb.size, (hb.cell hB).trans c0, ok⟩
theorem wrap_in (n : Int) (h0 : 0 ≤ n) (h1 : n < 65536) : IntKind.u16.wrap n = n := by rw [IntKind.wrap_u16]; omega
theorem at_some {α : Type} (l : List α) (k : Nat) (h : k < l.length) : ∃ o, l[k]? = some o := ⟨l[k], List.getElem?_eq_getElem h⟩
def isCode (b a : Int) : Prop := 0 ≤ b ∧ b < 64 ∧ ((b = 0 ∧ a < 4096) ∨ (4096 ≤ a ∧ a < 8192))
instance (b a : Int) : Decidable (isCode b a) := by unfold isCode; infer_instance
theorem code_any (b a : Int) (B : Bool) (w : World) (hb : OkI64 b) (ha : OkU16 a) (hB : decide (isCode b a) = B) :
  Calls Try.prog 104 #[.agg #[.int .i64 b, .int .u16 a]] w fun e w' => e = .returned (.bool B) ∧ Below w.heap.size w w' := by
 obtain ⟨b0, b1⟩ := hb
 obtain ⟨a0, a1⟩ := ha
 have HB : Hid (B = true ↔ isCode b a) := by show _ ↔ _; rw [← hB]; exact decide_eq_true_iff
 clear hB
 go_enter Try.func104, Try.ntmps104
 go_wp2
 all_goals
  go_ret
  refine ⟨?_, below1 _ _⟩
  refine ret_bool ?_
  rw [Bool.eq_iff_iff, HB.out]
  unfold isCode
  simp
  try omega
def offI (banks : List ByteArray) (b a : Int) : Int × Int × Bool :=
 if isCode b a ∧ b < banks.length ∧ a % 4096 < ((banks[b.toNat]?).getD ⟨#[]⟩).size then (b, a % 4096, true) else (0, 0, false)
theorem offI_yes (banks : List ByteArray) (b a : Int) (s : ByteArray) (h : isCode b a) (h1 : b < banks.length) (h2 : banks[b.toNat]? = some s) (h3 : a % 4096 < s.size) : offI banks b a = (b, a % 4096, true) := by
 unfold offI; rw [if_pos]; rw [h2]; exact ⟨h, h1, h3⟩
theorem offI_no (banks : List ByteArray) (b a : Int) (h : ¬ isCode b a) : offI banks b a = (0, 0, false) := by
 unfold offI; rw [if_neg]; exact fun x => h x.1
theorem offI_no1 (banks : List ByteArray) (b a : Int) (h : ¬ b < banks.length) : offI banks b a = (0, 0, false) := by
 unfold offI; rw [if_neg]; exact fun x => h x.2.1
theorem offI_no2 (banks : List ByteArray) (b a : Int) (s : ByteArray) (h2 : banks[b.toNat]? = some s) (h : ¬ a % 4096 < s.size) : offI banks b a = (0, 0, false) := by
 unfold offI; rw [if_neg]; rw [h2]; exact fun x => h x.2.2
theorem trio_eq {x y : Int × Int × Bool} (h : x = y) : Ending.returned (.tuple #[.int .i64 x.1, .int .i64 x.2.1, .bool x.2.2]) = .returned (.tuple #[.int .i64 y.1, .int .i64 y.2.1, .bool y.2.2]) := by rw [h]
set_option maxHeartbeats 2000000 in
theorem offset_any (p1 : Option Addr) (c1 : Nat) (p2 : Option Addr) (n2 c2 : Nat) (p3 : Option Addr) (n3 c3 : Nat) (banks : List ByteArray) (entry vector b a : Int) (w : World) (h1 : StrsAt w p1 banks) (l1 : banks.length ≤ maxLen) (hb : OkI64 b) (ha : OkU16 a) :
  Calls Try.prog 88 #[.agg #[.slice p1 banks.length c1, .int .u16 entry, .int .u16 vector, .slice p2 n2 c2, .slice p3 n3 c3], .agg #[.int .i64 b, .int .u16 a]] w fun e w' => e = .returned (.tuple #[.int .i64 (offI banks b a).1, .int .i64 (offI banks b a).2.1, .bool (offI banks b a).2.2]) ∧ Below w.heap.size w w' := by
 obtain ⟨b0, b1⟩ := hb
 obtain ⟨a0, a1⟩ := ha
 unfold maxLen at l1
 have hW1 := below_alloc (below1 w (Obj.cells #[Value.slice p1 banks.length c1, Value.int IntKind.u16 entry, Value.int IntKind.u16 vector, Value.slice p2 n2 c2, Value.slice p3 n3 c3] 35)) (Obj.cells #[Value.int IntKind.i64 b, Value.int IntKind.u16 a] 66)
 have y0 : ((w.alloc (Obj.cells #[Value.slice p1 banks.length c1, Value.int IntKind.u16 entry, Value.int IntKind.u16 vector, Value.slice p2 n2 c2, Value.slice p3 n3 c3] 35)).alloc (Obj.cells #[Value.int IntKind.i64 b, Value.int IntKind.u16 a] 66)).cell? ⟨w.heap.size, 0, none⟩ = some (.slice p1 banks.length c1) := by simp [go_sem]
 have u0 : ((w.alloc (Obj.cells #[Value.slice p1 banks.length c1, Value.int IntKind.u16 entry, Value.int IntKind.u16 vector, Value.slice p2 n2 c2, Value.slice p3 n3 c3] 35)).alloc (Obj.cells #[Value.int IntKind.i64 b, Value.int IntKind.u16 a] 66)).cell? ⟨w.heap.size + 1, 0, none⟩ = some (.int .i64 b) := by simp [go_sem]
 have u1 : ((w.alloc (Obj.cells #[Value.slice p1 banks.length c1, Value.int IntKind.u16 entry, Value.int IntKind.u16 vector, Value.slice p2 n2 c2, Value.slice p3 n3 c3] 35)).alloc (Obj.cells #[Value.int IntKind.i64 b, Value.int IntKind.u16 a] 66)).cell? ⟨w.heap.size + 1, 1, none⟩ = some (.int .u16 a) := by simp [go_sem]
 have hsz : w.heap.size + 1 < ((w.alloc (Obj.cells #[Value.slice p1 banks.length c1, Value.int IntKind.u16 entry, Value.int IntKind.u16 vector, Value.slice p2 n2 c2, Value.slice p3 n3 c3] 35)).alloc (Obj.cells #[Value.int IntKind.i64 b, Value.int IntKind.u16 a] 66)).heap.size := by simp
 have hs0 : w.heap.size < ((w.alloc (Obj.cells #[Value.slice p1 banks.length c1, Value.int IntKind.u16 entry, Value.int IntKind.u16 vector, Value.slice p2 n2 c2, Value.slice p3 n3 c3] 35)).alloc (Obj.cells #[Value.int IntKind.i64 b, Value.int IntKind.u16 a] 66)).heap.size := by simp; omega
 have HS := Lib.hid (h1.kept hW1)
 have HW1 := Lib.hid hW1
 clear h1 hW1
 have HS1 := HS.out
 obtain ⟨M, hM⟩ : ∃ M, a % 4096 = M := ⟨_, rfl⟩
 have m0 : 0 ≤ M := by omega
 have m1 : M < 4096 := by omega
 have ht : a.tmod 4096 = M := by rw [Int.tmod_eq_emod_of_nonneg a0]; exact hM
 have hw : IntKind.u16.wrap M = M := wrap_in _ m0 (by omega)
 have hw2 : IntKind.i64.wrap M = M := IntWalk.i64_in _ (by omega)
 have HM := Lib.hid hM
 clear hM
 by_cases hc : isCode b a
 rotate_left
 ·have HR := Lib.hid (offI_no banks b a hc)
  have HC := Lib.hid (show decide (isCode b a) = false from decide_eq_false hc)
  clear hc
  go_enter Try.func88, Try.ntmps88
  go_wp2_with (go_at_call 104; refine (code_any b a _ _ ⟨b0, b1⟩ ⟨a0, a1⟩ HC.out).mono ?_; rintro e w2 ⟨rfl, h2⟩; have z0 := (h2.cell (p := ⟨w.heap.size, 0, none⟩) hs0).trans y0; have v0 := (h2.cell (p := ⟨w.heap.size + 1, 0, none⟩) hsz).trans u0; have v1 := (h2.cell (p := ⟨w.heap.size + 1, 1, none⟩) hsz).trans u1)
  go_ret3
  exact ⟨trio_eq (x := (0, 0, false)) HR.out.symm, below_next HW1.out h2⟩
 have HC := Lib.hid (show decide (isCode b a) = true from decide_eq_true hc)
 have b2 : 0 ≤ b := hc.1
 have Hc := Lib.hid hc
 clear hc
 by_cases hl : b < banks.length
 rotate_left
 ·have HR := Lib.hid (offI_no1 banks b a hl)
  go_enter Try.func88, Try.ntmps88
  go_wp2_with (go_at_call 104; refine (code_any b a _ _ ⟨b0, b1⟩ ⟨a0, a1⟩ HC.out).mono ?_; rintro e w2 ⟨rfl, h2⟩; have z0 := (h2.cell (p := ⟨w.heap.size, 0, none⟩) hs0).trans y0; have v0 := (h2.cell (p := ⟨w.heap.size + 1, 0, none⟩) hsz).trans u0; have v1 := (h2.cell (p := ⟨w.heap.size + 1, 1, none⟩) hsz).trans u1)
  go_ret3
  exact ⟨trio_eq (x := (0, 0, false)) HR.out.symm, below_next HW1.out h2⟩
 obtain ⟨s, hs⟩ := at_some banks b.toNat (by omega)
 obtain ⟨B, rfl, hBs, e0, hss⟩ := HS.out b.toNat s hs
 have Hs := Lib.hid hs
 clear hs
 unfold maxLen at hss
 by_cases hm : M < s.size
 ·have HR := Lib.hid (offI_yes banks b a s Hc.out hl Hs.out (by rw [HM.out]; exact hm))
  have HR : Hid (offI banks b a = (b, M, true)) := by show _ = _; rw [HR.out, HM.out]
  go_enter Try.func88, Try.ntmps88
  go_wp2_with (go_at_call 104; refine (code_any b a _ _ ⟨b0, b1⟩ ⟨a0, a1⟩ HC.out).mono ?_; rintro e w2 ⟨rfl, h2⟩; have z0 := (h2.cell (p := ⟨w.heap.size, 0, none⟩) hs0).trans y0; have v0 := (h2.cell (p := ⟨w.heap.size + 1, 0, none⟩) hsz).trans u0; have v1 := (h2.cell (p := ⟨w.heap.size + 1, 1, none⟩) hsz).trans u1; have e1 := (h2.cell hBs).trans e0)
  go_ret3
  exact ⟨trio_eq (x := (b, M, true)) HR.out.symm, below_next HW1.out h2⟩
 ·have HR := Lib.hid (offI_no2 banks b a s Hs.out (by rw [HM.out]; exact hm))
  go_enter Try.func88, Try.ntmps88
  go_wp2_with (go_at_call 104; refine (code_any b a _ _ ⟨b0, b1⟩ ⟨a0, a1⟩ HC.out).mono ?_; rintro e w2 ⟨rfl, h2⟩; have z0 := (h2.cell (p := ⟨w.heap.size, 0, none⟩) hs0).trans y0; have v0 := (h2.cell (p := ⟨w.heap.size + 1, 0, none⟩) hsz).trans u0; have v1 := (h2.cell (p := ⟨w.heap.size + 1, 1, none⟩) hsz).trans u1; have e1 := (h2.cell hBs).trans e0)
  go_ret3
  exact ⟨trio_eq (x := (0, 0, false)) HR.out.symm, below_next HW1.out h2⟩
def bankAt (banks : List ByteArray) (b : Int) : ByteArray := (banks[b.toNat]?).getD ⟨#[]⟩
def codeI (banks : List ByteArray) (b a n : Int) : ByteArray :=
 if (offI banks b a).2.2 = true ∧ 1 ≤ n then
  ((bankAt banks b).extract (a % 4096).toNat (bankAt banks b).size).extract 0 (min n ((bankAt banks b).extract (a % 4096).toNat (bankAt banks b).size).size).toNat
 else ⟨#[]⟩
theorem offI_cases (banks : List ByteArray) (b a : Int) : offI banks b a = (0, 0, false) ∨ (offI banks b a = (b, a % 4096, true) ∧ isCode b a ∧ b < banks.length ∧ a % 4096 < (bankAt banks b).size) := by
 unfold offI
 split
 ·rename_i h; exact .inr ⟨rfl, h.1, h.2.1, h.2.2⟩
 ·exact .inl rfl
theorem codeI_no (banks : List ByteArray) (b a n : Int) (h : ¬ ((offI banks b a).2.2 = true ∧ 1 ≤ n)) : codeI banks b a n = ⟨#[]⟩ := if_neg h
theorem codeI_yes (banks : List ByteArray) (b a n : Int) (s : ByteArray) (h : (offI banks b a).2.2 = true) (h1 : 1 ≤ n) (hs : bankAt banks b = s) : codeI banks b a n = (s.extract (a % 4096).toNat s.size).extract 0 (min n (s.extract (a % 4096).toNat s.size).size).toNat := by
 subst hs; exact if_pos ⟨h, h1⟩
theorem ret_str {s t : ByteArray} (h : s = t) : Ending.returned (.string s) = .returned (.string t) := by rw [h]
theorem two_cuts (s : ByteArray) (o : Nat) (n : Int) (h : o ≤ s.size) (hn : 1 ≤ n) : s.extract o (o + min n (s.size - o : Int)).toNat = (s.extract o s.size).extract 0 (min n ((s.extract o s.size).size : Int)).toNat := by
 have e : ((s.extract o s.size).size : Int) = s.size - o := by rw [ByteArray.size_extract]; omega
 rw [e]
 apply ByteArray.ext
 simp only [ByteArray.data_extract]
 rw [Array.extract_extract]
 congr 1
 have : s.data.size = s.size := rfl
 omega
set_option maxRecDepth 4000 in
set_option maxHeartbeats 2000000 in
theorem code1_any (p1 : Option Addr) (c1 : Nat) (p2 : Option Addr) (n2 c2 : Nat) (p3 : Option Addr) (n3 c3 : Nat) (banks : List ByteArray) (entry vector b a n : Int) (w : World) (h1 : StrsAt w p1 banks) (l1 : banks.length ≤ maxLen) (hb : OkI64 b) (ha : OkU16 a) (hn : OkI64 n) :
  Calls Try.prog 71 #[.agg #[.slice p1 banks.length c1, .int .u16 entry, .int .u16 vector, .slice p2 n2 c2, .slice p3 n3 c3], .agg #[.int .i64 b, .int .u16 a], .int .i64 n] w fun e w' => e = .returned (.string (codeI banks b a n)) ∧ Below w.heap.size w w' := by
 have HI := Lib.hid h1
 have hO := fun (w : World) (h : StrsAt w p1 banks) => offset_any p1 c1 p2 n2 c2 p3 n3 c3 banks entry vector b a w h l1 hb ha
 have HS := Lib.hid h1
 clear h1 l1
 obtain ⟨b0, b1⟩ := hb
 obtain ⟨a0, a1⟩ := ha
 obtain ⟨n0, n1⟩ := hn
 have hW1 := below_alloc (below1 w (Obj.cells #[Value.slice p1 banks.length c1, Value.int IntKind.u16 entry, Value.int IntKind.u16 vector, Value.slice p2 n2 c2, Value.slice p3 n3 c3] 35)) (Obj.cells #[Value.int IntKind.i64 b, Value.int IntKind.u16 a] 66)
 have y0 : ((w.alloc (Obj.cells #[Value.slice p1 banks.length c1, Value.int IntKind.u16 entry, Value.int IntKind.u16 vector, Value.slice p2 n2 c2, Value.slice p3 n3 c3] 35)).alloc (Obj.cells #[Value.int IntKind.i64 b, Value.int IntKind.u16 a] 66)).cell? ⟨w.heap.size, 0, none⟩ = some (.slice p1 banks.length c1) := by simp [go_sem]
 have hs0 : w.heap.size < ((w.alloc (Obj.cells #[Value.slice p1 banks.length c1, Value.int IntKind.u16 entry, Value.int IntKind.u16 vector, Value.slice p2 n2 c2, Value.slice p3 n3 c3] 35)).alloc (Obj.cells #[Value.int IntKind.i64 b, Value.int IntKind.u16 a] 66)).heap.size := by simp; omega
 have HW1 := Lib.hid hW1
 clear hW1
 rcases offI_cases banks b a with hc | ⟨hc, hcode, hl, hm⟩
 ·have HR := Lib.hid (codeI_no banks b a n (by rw [hc]; simp))
  rw [hc] at hO
  have HO := Lib.hid hO
  clear hO hc
  go_enter Try.func71, Try.ntmps71
  go_wp2_with (go_at_call 88; refine (HO.out _ (HI.out.kept HW1.out)).mono ?_; rintro e w2 ⟨rfl, h2⟩; have z0 := (h2.cell (p := ⟨w.heap.size, 0, none⟩) hs0).trans y0)
  go_ret
  exact ⟨ret_str HR.out.symm, below_next HW1.out h2⟩
 have b2 : 0 ≤ b := hcode.1
 clear hcode
 by_cases h1 : n < 1
 ·have HR := Lib.hid (codeI_no banks b a n (by omega))
  rw [hc] at hO
  have HO := Lib.hid hO
  clear hO hc hm
  go_enter Try.func71, Try.ntmps71
  go_wp2_with (go_at_call 88; refine (HO.out _ (HI.out.kept HW1.out)).mono ?_; rintro e w2 ⟨rfl, h2⟩; have z0 := (h2.cell (p := ⟨w.heap.size, 0, none⟩) hs0).trans y0)
  go_ret
  exact ⟨ret_str HR.out.symm, below_next HW1.out h2⟩
 obtain ⟨s, hs⟩ := at_some banks b.toNat (by omega)
 have hbk : bankAt banks b = s := by unfold bankAt; rw [hs]; rfl
 have HR := Lib.hid (codeI_yes banks b a n s (by rw [hc]) (by omega) hbk)
 rw [hbk] at hm
 rw [hc] at hO
 have HO := Lib.hid hO
 obtain ⟨B, rfl, hBs, e0, hss⟩ := (HS.out.kept HW1.out) b.toNat s hs
 unfold maxLen at hss
 clear hO hc hs hbk
 obtain ⟨M, hM⟩ : ∃ M : Nat, a % 4096 = (M : Int) := ⟨(a % 4096).toNat, by omega⟩
 rw [hM] at HO HR hm
 have hm2 : M ≤ s.size := by omega
 have hm3 : (M : Int) ≤ s.size := by omega
 have hmn : (M : Int).toNat = M := by omega
 have HT := Lib.hid (two_cuts s M n hm2 (by omega))
 rw [hmn] at HR
 generalize hP : s.extract M s.size = P at HR HT
 have hPz : (P.size : Int) = s.size - M := by rw [← hP, ByteArray.size_extract]; omega
 have hPz2 : P.size ≤ 9223372036854775807 := by omega
 have hw1 : IntKind.i64.wrap ((s.size : Int) - M) = s.size - M := IntWalk.i64_in _ (by omega)
 have hmi0 : 0 ≤ min n (P.size : Int) := by omega
 have hmi1 : min n (P.size : Int) ≤ P.size := by omega
 have hmj0 : 0 ≤ min n ((s.size : Int) - M) := by omega
 have hmj1 : (M : Int) + min n ((s.size : Int) - M) ≤ s.size := by omega
 have hw2 : IntKind.i64.wrap ((M : Int) + min n ((s.size : Int) - M)) = M + min n ((s.size : Int) - M) := IntWalk.i64_in _ (by omega)
 have hmj2 : (M : Int) ≤ M + min n ((s.size : Int) - M) := by omega
 clear hM
 go_enter Try.func71, Try.ntmps71
 go_wp2_with (go_at_call 88; refine (HO.out _ (HI.out.kept HW1.out)).mono ?_; rintro e w2 ⟨rfl, h2⟩; have z0 := (h2.cell (p := ⟨w.heap.size, 0, none⟩) hs0).trans y0; have e1 := (h2.cell hBs).trans e0)
 all_goals
  go_ret
  refine ⟨ret_str ?_, below_next HW1.out h2⟩
  first
   | (rw [HR.out]; congr 1; omega)
   | (rw [HR.out, ← HT.out]; congr 1; omega)
end Go.Proofs.Ytieaicdihingkaa
