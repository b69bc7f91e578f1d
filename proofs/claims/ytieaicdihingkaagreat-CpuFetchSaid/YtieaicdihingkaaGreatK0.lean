/- image: code, Offset and Code of the program. -/
import Derived.Test.YtieaicdihingkaaGreatRR
import Derived.Test.YtieaicdihingkaaGreatC6
import Derived.Test.YtieaicdihingkaaGreatC9
namespace Go.Proofs.YtieaicdihingkaaGreat
set_option linter.unusedVariables false
set_option linter.unusedSimpArgs false
open Go.RowKit
def OkI64 (n : Int) : Prop := -9223372036854775808 ≤ n ∧ n ≤ 9223372036854775807
def OkU16 (n : Int) : Prop := 0 ≤ n ∧ n < 65536
def StrsAt (w : World) (a : Option Addr) (l : List ByteArray) : Prop :=
 ∀ k s, l[k]? = some s → ∃ B, a = some ⟨B, 0, none⟩ ∧ B < w.heap.size ∧ w.cell? ⟨B, k, none⟩ = some (.string s) ∧ s.size ≤ maxLen
theorem StrsAt.kept {w w' : World} {a : Option Addr} {l : List ByteArray} (h : StrsAt w a l) (hb : Below w.heap.size w w') : StrsAt w' a l := by
 intro k o hk
 obtain ⟨B, e, hB, c0, ok⟩ := h k o hk
 exact ⟨B, e, Nat.lt_of_lt_of_le hB hb.size, (hb.cell hB).trans c0, ok⟩
theorem wrap_in (n : Int) (h0 : 0 ≤ n) (h1 : n < 65536) : IntKind.u16.wrap n = n := by rw [IntKind.wrap_u16]; omega
theorem at_some {α : Type} (l : List α) (k : Nat) (h : k < l.length) : ∃ o, l[k]? = some o := ⟨l[k], List.getElem?_eq_getElem h⟩
def isCode (b a : Int) : Prop := 0 ≤ b ∧ b < 64 ∧ ((b = 0 ∧ a < 4096) ∨ (4096 ≤ a ∧ a < 8192))
instance (b a : Int) : Decidable (isCode b a) := by unfold isCode; infer_instance
theorem code_any (b a : Int) (B : Bool) (w : World) (hb : OkI64 b) (ha : OkU16 a) (hB : decide (isCode b a) = B) :
  Calls Tryz.prog 105 #[.agg #[.int .i64 b, .int .u16 a]] w fun e w' => e = .returned (.bool B) ∧ Below w.heap.size w w' := by
 obtain ⟨b0, b1⟩ := hb
 obtain ⟨a0, a1⟩ := ha
 have HB : Hid (B = true ↔ isCode b a) := by show _ ↔ _; rw [← hB]; exact decide_eq_true_iff
 clear hB
 go_enter Tryz.func105, Tryz.ntmps105
 go_wp2
 all_goals
  go_ret
  refine ⟨?_, below1 _ _⟩
  refine ret_bool ?_
  rw [Bool.eq_iff_iff, HB.out]
  unfold isCode
  simp
  try omega
def offI (banks : List ByteArray) (b a : Int) : Int × Int × Bool :=
 if isCode b a ∧ b < banks.length ∧ a % 4096 < ((banks[b.toNat]?).getD ⟨#[]⟩).size then (b, a % 4096, true) else (0, 0, false)
theorem offI_yes (banks : List ByteArray) (b a : Int) (s : ByteArray) (h : isCode b a) (h1 : b < banks.length) (h2 : banks[b.toNat]? = some s) (h3 : a % 4096 < s.size) : offI banks b a = (b, a % 4096, true) := by
 unfold offI; rw [if_pos]; rw [h2]; exact ⟨h, h1, h3⟩
theorem offI_no (banks : List ByteArray) (b a : Int) (h : ¬ isCode b a) : offI banks b a = (0, 0, false) := by
 unfold offI; rw [if_neg]; exact fun x => h x.1
theorem offI_no1 (banks : List ByteArray) (b a : Int) (h : ¬ b < banks.length) : offI banks b a = (0, 0, false) := by
 unfold offI; rw [if_neg]; exact fun x => h x.2.1
theorem offI_no2 (banks : List ByteArray) (b a : Int) (s : ByteArray) (h2 : banks[b.toNat]? = some s) (h : ¬ a % 4096 < s.size) : offI banks b a = (0, 0, false) := by
 unfold offI; rw [if_neg]; rw [h2]; exact fun x => h x.2.2
theorem trio_eq {x y : Int × Int × Bool} (h : x = y) : Ending.returned (.tuple #[.int .i64 x.1, .int .i64 x.2.1, .bool x.2.2]) = .returned (.tuple #[.int .i64 y.1, .int .i64 y.2.1, .bool y.2.2]) := by rw [h]
set_option maxHeartbeats 2000000 in
theorem offset_any (p1 : Option Addr) (c1 : Nat) (p2 : Option Addr) (n2 c2 : Nat) (p3 : Option Addr) (n3 c3 : Nat) (banks : List ByteArray) (entry vector b a : Int) (w : World) (h1 : StrsAt w p1 banks) (l1 : banks.length ≤ maxLen) (hb : OkI64 b) (ha : OkU16 a) :
  Calls Tryz.prog 85 #[.agg #[.slice p1 banks.length c1, .int .u16 entry, .int .u16 vector, .slice p2 n2 c2, .slice p3 n3 c3], .agg #[.int .i64 b, .int .u16 a]] w fun e w' => e = .returned (.tuple #[.int .i64 (offI banks b a).1, .int .i64 (offI banks b a).2.1, .bool (offI banks b a).2.2]) ∧ Below w.heap.size w w' := by
 obtain ⟨b0, b1⟩ := hb
 obtain ⟨a0, a1⟩ := ha
 unfold maxLen at l1
 have hW1 := below_alloc (below1 w (Obj.cells #[Value.slice p1 banks.length c1, Value.int IntKind.u16 entry, Value.int IntKind.u16 vector, Value.slice p2 n2 c2, Value.slice p3 n3 c3] 29)) (Obj.cells #[Value.int IntKind.i64 b, Value.int IntKind.u16 a] 96)
 have y0 : ((w.alloc (Obj.cells #[Value.slice p1 banks.length c1, Value.int IntKind.u16 entry, Value.int IntKind.u16 vector, Value.slice p2 n2 c2, Value.slice p3 n3 c3] 29)).alloc (Obj.cells #[Value.int IntKind.i64 b, Value.int IntKind.u16 a] 96)).cell? ⟨w.heap.size, 0, none⟩ = some (.slice p1 banks.length c1) := by simp [go_sem]
 have u0 : ((w.alloc (Obj.cells #[Value.slice p1 banks.length c1, Value.int IntKind.u16 entry, Value.int IntKind.u16 vector, Value.slice p2 n2 c2, Value.slice p3 n3 c3] 29)).alloc (Obj.cells #[Value.int IntKind.i64 b, Value.int IntKind.u16 a] 96)).cell? ⟨w.heap.size + 1, 0, none⟩ = some (.int .i64 b) := by simp [go_sem]
 have u1 : ((w.alloc (Obj.cells #[Value.slice p1 banks.length c1, Value.int IntKind.u16 entry, Value.int IntKind.u16 vector, Value.slice p2 n2 c2, Value.slice p3 n3 c3] 29)).alloc (Obj.cells #[Value.int IntKind.i64 b, Value.int IntKind.u16 a] 96)).cell? ⟨w.heap.size + 1, 1, none⟩ = some (.int .u16 a) := by simp [go_sem]
 have hsz : w.heap.size + 1 < ((w.alloc (Obj.cells #[Value.slice p1 banks.length c1, Value.int IntKind.u16 entry, Value.int IntKind.u16 vector, Value.slice p2 n2 c2, Value.slice p3 n3 c3] 29)).alloc (Obj.cells #[Value.int IntKind.i64 b, Value.int IntKind.u16 a] 96)).heap.size := by simp
 have hs0 : w.heap.size < ((w.alloc (Obj.cells #[Value.slice p1 banks.length c1, Value.int IntKind.u16 entry, Value.int IntKind.u16 vector, Value.slice p2 n2 c2, Value.slice p3 n3 c3] 29)).alloc (Obj.cells #[Value.int IntKind.i64 b, Value.int IntKind.u16 a] 96)).heap.size := by simp; omega
 have HS := Lib.hid (h1.kept hW1)
 have HW1 := Lib.hid hW1
 clear h1 hW1
 have HS1 := HS.out
 obtain ⟨M, hM⟩ : ∃ M, a % 4096 = M := ⟨_, rfl⟩
 have m0 : 0 ≤ M := by omega
 have m1 : M < 4096 := by omega
 have ht : a.tmod 4096 = M := by rw [Int.tmod_eq_emod_of_nonneg a0]; exact hM
 have hw : IntKind.u16.wrap M = M := wrap_in _ m0 (by omega)
 have hw2 : IntKind.i64.wrap M = M := IntWalk.i64_in _ (by omega)
 have HM := Lib.hid hM
 clear hM
 by_cases hc : isCode b a
 rotate_left
 ·have HR := Lib.hid (offI_no banks b a hc)
  have HC := Lib.hid (show decide (isCode b a) = false from decide_eq_false hc)
  clear hc
  go_enter Tryz.func85, Tryz.ntmps85
  go_wp2_with (go_at_call 105; refine (code_any b a _ _ ⟨b0, b1⟩ ⟨a0, a1⟩ HC.out).mono ?_; rintro e w2 ⟨rfl, h2⟩; have z0 := (h2.cell (p := ⟨w.heap.size, 0, none⟩) hs0).trans y0; have v0 := (h2.cell (p := ⟨w.heap.size + 1, 0, none⟩) hsz).trans u0; have v1 := (h2.cell (p := ⟨w.heap.size + 1, 1, none⟩) hsz).trans u1)
  go_ret3
  exact ⟨trio_eq (x := (0, 0, false)) HR.out.symm, below_next HW1.out h2⟩
 have HC := Lib.hid (show decide (isCode b a) = true from decide_eq_true hc)
 have b2 : 0 ≤ b := hc.1
 have Hc := Lib.hid hc
 clear hc
 by_cases hl : b < banks.length
 rotate_left
 ·have HR := Lib.hid (offI_no1 banks b a hl)
  go_enter Tryz.func85, Tryz.ntmps85
  go_wp2_with (go_at_call 105; refine (code_any b a _ _ ⟨b0, b1⟩ ⟨a0, a1⟩ HC.out).mono ?_; rintro e w2 ⟨rfl, h2⟩; have z0 := (h2.cell (p := ⟨w.heap.size, 0, none⟩) hs0).trans y0; have v0 := (h2.cell (p := ⟨w.heap.size + 1, 0, none⟩) hsz).trans u0; have v1 := (h2.cell (p := ⟨w.heap.size + 1, 1, none⟩) hsz).trans u1)
  go_ret3
  exact ⟨trio_eq (x := (0, 0, false)) HR.out.symm, below_next HW1.out h2⟩
 obtain ⟨s, hs⟩ := at_some banks b.toNat (by omega)
 obtain ⟨B, rfl, hBs, e0, hss⟩ := HS.out b.toNat s hs
 have Hs := Lib.hid hs
 clear hs
 unfold maxLen at hss
 by_cases hm : M < s.size
 ·have HR := Lib.hid (offI_yes banks b a s Hc.out hl Hs.out (by rw [HM.out]; exact hm))
  have HR : Hid (offI banks b a = (b, M, true)) := by show _ = _; rw [HR.out, HM.out]
  go_enter Tryz.func85, Tryz.ntmps85
  go_wp2_with (go_at_call 105; refine (code_any b a _ _ ⟨b0, b1⟩ ⟨a0, a1⟩ HC.out).mono ?_; rintro e w2 ⟨rfl, h2⟩; have z0 := (h2.cell (p := ⟨w.heap.size, 0, none⟩) hs0).trans y0; have v0 := (h2.cell (p := ⟨w.heap.size + 1, 0, none⟩) hsz).trans u0; have v1 := (h2.cell (p := ⟨w.heap.size + 1, 1, none⟩) hsz).trans u1; have e1 := (h2.cell hBs).trans e0)
  go_ret3
  exact ⟨trio_eq (x := (b, M, true)) HR.out.symm, below_next HW1.out h2⟩
 ·have HR := Lib.hid (offI_no2 banks b a s Hs.out (by rw [HM.out]; exact hm))
  go_enter Tryz.func85, Tryz.ntmps85
  go_wp2_with (go_at_call 105; refine (code_any b a _ _ ⟨b0, b1⟩ ⟨a0, a1⟩ HC.out).mono ?_; rintro e w2 ⟨rfl, h2⟩; have z0 := (h2.cell (p := ⟨w.heap.size, 0, none⟩) hs0).trans y0; have v0 := (h2.cell (p := ⟨w.heap.size + 1, 0, none⟩) hsz).trans u0; have v1 := (h2.cell (p := ⟨w.heap.size + 1, 1, none⟩) hsz).trans u1; have e1 := (h2.cell hBs).trans e0)
  go_ret3
  exact ⟨trio_eq (x := (0, 0, false)) HR.out.symm, below_next HW1.out h2⟩
def bankAt (banks : List ByteArray) (b : Int) : ByteArray := (banks[b.toNat]?).getD ⟨#[]⟩
def codeI (banks : List ByteArray) (b a n : Int) : ByteArray :=
 if (offI banks b a).2.2 = true ∧ 1 ≤ n then
  ((bankAt banks b).extract (a % 4096).toNat (bankAt banks b).size).extract 0 (min n ((bankAt banks b).extract (a % 4096).toNat (bankAt banks b).size).size).toNat
 else ⟨#[]⟩
theorem offI_cases (banks : List ByteArray) (b a : Int) : offI banks b a = (0, 0, false) ∨ (offI banks b a = (b, a % 4096, true) ∧ isCode b a ∧ b < banks.length ∧ a % 4096 < (bankAt banks b).size) := by
 unfold offI
 split
 ·rename_i h; exact .inr ⟨rfl, h.1, h.2.1, h.2.2⟩
 ·exact .inl rfl
theorem codeI_no (banks : List ByteArray) (b a n : Int) (h : ¬ ((offI banks b a).2.2 = true ∧ 1 ≤ n)) : codeI banks b a n = ⟨#[]⟩ := if_neg h
theorem codeI_yes (banks : List ByteArray) (b a n : Int) (s : ByteArray) (h : (offI banks b a).2.2 = true) (h1 : 1 ≤ n) (hs : bankAt banks b = s) : codeI banks b a n = (s.extract (a % 4096).toNat s.size).extract 0 (min n (s.extract (a % 4096).toNat s.size).size).toNat := by
 subst hs; exact if_pos ⟨h, h1⟩
theorem ret_str {s t : ByteArray} (h : s = t) : Ending.returned (.string s) = .returned (.string t) := by rw [h]
theorem two_cuts (s : ByteArray) (o : Nat) (n : Int) (h : o ≤ s.size) (hn : 1 ≤ n) : s.extract o (o + min n (s.size - o : Int)).toNat = (s.extract o s.size).extract 0 (min n ((s.extract o s.size).size : Int)).toNat := by
 have e : ((s.extract o s.size).size : Int) = s.size - o := by rw [ByteArray.size_extract]; omega
 rw [e]
 apply ByteArray.ext
 simp only [ByteArray.data_extract]
 rw [Array.extract_extract]
 congr 1
 have : s.data.size = s.size := rfl
 omega
set_option maxRecDepth 4000 in
set_option maxHeartbeats 2000000 in
theorem code1_any (p1 : Option Addr) (c1 : Nat) (p2 : Option Addr) (n2 c2 : Nat) (p3 : Option Addr) (n3 c3 : Nat) (banks : List ByteArray) (entry vector b a n : Int) (w : World) (h1 : StrsAt w p1 banks) (l1 : banks.length ≤ maxLen) (hb : OkI64 b) (ha : OkU16 a) (hn : OkI64 n) :
  Calls Tryz.prog 61 #[.agg #[.slice p1 banks.length c1, .int .u16 entry, .int .u16 vector, .slice p2 n2 c2, .slice p3 n3 c3], .agg #[.int .i64 b, .int .u16 a], .int .i64 n] w fun e w' => e = .returned (.string (codeI banks b a n)) ∧ Below w.heap.size w w' := by
 have HI := Lib.hid h1
 have hO := fun (w : World) (h : StrsAt w p1 banks) => offset_any p1 c1 p2 n2 c2 p3 n3 c3 banks entry vector b a w h l1 hb ha
 have HS := Lib.hid h1
 clear h1 l1
 obtain ⟨b0, b1⟩ := hb
 obtain ⟨a0, a1⟩ := ha
 obtain ⟨n0, n1⟩ := hn
 have hW1 := below_alloc (below1 w (Obj.cells #[Value.slice p1 banks.length c1, Value.int IntKind.u16 entry, Value.int IntKind.u16 vector, Value.slice p2 n2 c2, Value.slice p3 n3 c3] 29)) (Obj.cells #[Value.int IntKind.i64 b, Value.int IntKind.u16 a] 96)
 have y0 : ((w.alloc (Obj.cells #[Value.slice p1 banks.length c1, Value.int IntKind.u16 entry, Value.int IntKind.u16 vector, Value.slice p2 n2 c2, Value.slice p3 n3 c3] 29)).alloc (Obj.cells #[Value.int IntKind.i64 b, Value.int IntKind.u16 a] 96)).cell? ⟨w.heap.size, 0, none⟩ = some (.slice p1 banks.length c1) := by simp [go_sem]
 have hs0 : w.heap.size < ((w.alloc (Obj.cells #[Value.slice p1 banks.length c1, Value.int IntKind.u16 entry, Value.int IntKind.u16 vector, Value.slice p2 n2 c2, Value.slice p3 n3 c3] 29)).alloc (Obj.cells #[Value.int IntKind.i64 b, Value.int IntKind.u16 a] 96)).heap.size := by simp; omega
 have HW1 := Lib.hid hW1
 clear hW1
 rcases offI_cases banks b a with hc | ⟨hc, hcode, hl, hm⟩
 ·have HR := Lib.hid (codeI_no banks b a n (by rw [hc]; simp))
  rw [hc] at hO
  have HO := Lib.hid hO
  clear hO hc
  go_enter Tryz.func61, Tryz.ntmps61
  go_wp2_with (go_at_call 85; refine (HO.out _ (HI.out.kept HW1.out)).mono ?_; rintro e w2 ⟨rfl, h2⟩; have z0 := (h2.cell (p := ⟨w.heap.size, 0, none⟩) hs0).trans y0)
  go_ret
  exact ⟨ret_str HR.out.symm, below_next HW1.out h2⟩
 have b2 : 0 ≤ b := hcode.1
 clear hcode
 by_cases h1 : n < 1
 ·have HR := Lib.hid (codeI_no banks b a n (by omega))
  rw [hc] at hO
  have HO := Lib.hid hO
  clear hO hc hm
  go_enter Tryz.func61, Tryz.ntmps61
  go_wp2_with (go_at_call 85; refine (HO.out _ (HI.out.kept HW1.out)).mono ?_; rintro e w2 ⟨rfl, h2⟩; have z0 := (h2.cell (p := ⟨w.heap.size, 0, none⟩) hs0).trans y0)
  go_ret
  exact ⟨ret_str HR.out.symm, below_next HW1.out h2⟩
 obtain ⟨s, hs⟩ := at_some banks b.toNat (by omega)
 have hbk : bankAt banks b = s := by unfold bankAt; rw [hs]; rfl
 have HR := Lib.hid (codeI_yes banks b a n s (by rw [hc]) (by omega) hbk)
 rw [hbk] at hm
 rw [hc] at hO
 have HO := Lib.hid hO
 obtain ⟨B, rfl, hBs, e0, hss⟩ := (HS.out.kept HW1.out) b.toNat s hs
 unfold maxLen at hss
 clear hO hc hs hbk
 obtain ⟨M, hM⟩ : ∃ M : Nat, a % 4096 = (M : Int) := ⟨(a % 4096).toNat, by omega⟩
 rw [hM] at HO HR hm
 have hm2 : M ≤ s.size := by omega
 have hm3 : (M : Int) ≤ s.size := by omega
 have hmn : (M : Int).toNat = M := by omega
 have HT := Lib.hid (two_cuts s M n hm2 (by omega))
 rw [hmn] at HR
 generalize hP : s.extract M s.size = P at HR HT
 have hPz : (P.size : Int) = s.size - M := by rw [← hP, ByteArray.size_extract]; omega
 have hPz2 : P.size ≤ 9223372036854775807 := by omega
 have hw1 : IntKind.i64.wrap ((s.size : Int) - M) = s.size - M := IntWalk.i64_in _ (by omega)
 have hmi0 : 0 ≤ min n (P.size : Int) := by omega
 have hmi1 : min n (P.size : Int) ≤ P.size := by omega
 have hmj0 : 0 ≤ min n ((s.size : Int) - M) := by omega
 have hmj1 : (M : Int) + min n ((s.size : Int) - M) ≤ s.size := by omega
 have hw2 : IntKind.i64.wrap ((M : Int) + min n ((s.size : Int) - M)) = M + min n ((s.size : Int) - M) := IntWalk.i64_in _ (by omega)
 have hmj2 : (M : Int) ≤ M + min n ((s.size : Int) - M) := by omega
 clear hM
 go_enter Tryz.func61, Tryz.ntmps61
 go_wp2_with (go_at_call 85; refine (HO.out _ (HI.out.kept HW1.out)).mono ?_; rintro e w2 ⟨rfl, h2⟩; have z0 := (h2.cell (p := ⟨w.heap.size, 0, none⟩) hs0).trans y0; have e1 := (h2.cell hBs).trans e0)
 all_goals
  go_ret
  refine ⟨ret_str ?_, below_next HW1.out h2⟩
  first
   | (rw [HR.out]; congr 1; omega)
   | (rw [HR.out, ← HT.out]; congr 1; omega)
end Go.Proofs.YtieaicdihingkaaGreat
namespace Go.Proofs.YtieaicdihingkaaGreat
set_option linter.unusedVariables false
set_option linter.unusedSimpArgs false
open Go.RowKit
structure Mach where
 R : Nat → Int
 pc : Int
 sp : Int
 fp : Int
 f : Int
 bank : Int
 steps : Int
 inputs : Int
 polls : Int
 ram : Nat → Int
 st : List Int
 out : List (Int × Int)
structure Env where
 B : Nat
 base : Nat
 ramB : Nat
 pb : Option Addr
 cb : Nat
 banks : List ByteArray
 entry : Int
 vector : Int
 pd : Option Addr
 nd : Nat
 cd : Nat
 pr : Option Addr
 nr : Nat
 cr : Nat
 pin : Option Addr
 cin : Nat
 tin : List Int
 pirq : Option Addr
 cirq : Nat
 tirq : List Int
def mcells (E : Env) (m : Mach) (sv ov : Value) : List Value :=
 [.slice E.pb E.banks.length E.cb, .int .u16 E.entry, .int .u16 E.vector, .slice E.pd E.nd E.cd, .slice E.pr E.nr E.cr, .slice E.pin E.tin.length E.cin, .slice E.pirq E.tirq.length E.cirq,
  .int .u16 (m.R 0), .int .u16 (m.R 1), .int .u16 (m.R 2), .int .u16 (m.R 3), .int .u16 (m.R 4), .int .u16 (m.R 5), .int .u16 (m.R 6), .int .u16 (m.R 7),
  .int .u16 m.pc, .int .u16 m.sp, .int .u16 m.fp, .int .u16 m.f, .int .i64 m.bank, .int .i64 m.steps, .int .i64 m.inputs, .int .i64 m.polls,
  .slice (some ⟨E.ramB, 0, none⟩) 8192 8192, sv, ov]
def outC (l : List (Int × Int)) : List Value := l.flatMap fun e => [.int .u16 e.1, .int .u16 e.2]
theorem outC_length (l : List (Int × Int)) : (outC l).length = l.length * 2 := by
 induction l with
 | nil => rfl
 | cons a l ih => unfold outC at *; rw [List.flatMap_cons, List.length_append, ih]; simp; omega
structure Mach.Ok (m : Mach) : Prop where
 R : ∀ k, OkU16 (m.R k)
 pc : OkU16 m.pc
 sp : OkU16 m.sp
 fp : OkU16 m.fp
 f : OkU16 m.f
 bank : OkI64 m.bank
 steps : OkI64 m.steps
 inputs : OkI64 m.inputs
 polls : OkI64 m.polls
 ram : ∀ j, 0 ≤ m.ram j ∧ m.ram j < 256
 st : ∀ x ∈ m.st, OkU16 x
 len : m.st.length ≤ 4096
 out : m.out.length ≤ 1000000000000
 outs : ∀ e ∈ m.out, OkU16 e.1 ∧ OkU16 e.2
structure Env.Ok (E : Env) : Prop where
 banks : E.banks.length ≤ maxLen
 entry : OkU16 E.entry
 vector : OkU16 E.vector
 tin : E.tin.length ≤ maxLen
 tirq : E.tirq.length ≤ maxLen
 tinv : ∀ x ∈ E.tin, OkU16 x
 tirqv : ∀ x ∈ E.tirq, 0 ≤ x ∧ x < 256
 lowB : E.base ≤ E.B
 lowR : E.base ≤ E.ramB
def StrsLow (base : Nat) (w : World) (a : Option Addr) (l : List ByteArray) : Prop :=
 ∀ k s, l[k]? = some s → ∃ B, a = some ⟨B, 0, none⟩ ∧ B < base ∧ w.cell? ⟨B, k, none⟩ = some (.string s) ∧ s.size ≤ maxLen
def RowLow (base : Nat) (w : World) (a : Option Addr) (kd : IntKind) (l : List Int) : Prop :=
 ∀ k n, l[k]? = some n → ∃ B off, a = some ⟨B, off, none⟩ ∧ B < base ∧ w.cell? ⟨B, off + k, none⟩ = some (.int kd n)
structure MachAt (E : Env) (V : World) (m : Mach) (sv ov : Value) : Prop where
 blk : V.heap[E.B]? = some (.cells (mcells E m sv ov).toArray 63 (0, 0))
 ram : ∃ cur, V.heap[E.ramB]? = some (.cells cur 5 (0, 0)) ∧ cur.size = 8192 ∧ ∀ j, j < 8192 → cur[j]? = some (.int .u8 (m.ram j))
 st : V.ownsRow E.base 22 1 sv m.st.length (m.st.map (Value.int .u16))
 out : V.ownsRow E.base 51 2 ov m.out.length (outC m.out)
 bnk : StrsLow E.base V E.pb E.banks
 inp : RowLow E.base V E.pin .u16 E.tin
 irq : RowLow E.base V E.pirq .u8 E.tirq
 ok : m.Ok
 env : E.Ok
/-- What stays: all below 'base', and every block of another kind than the machine's own. -/
structure Keeps (base : Nat) (V V' : World) : Prop where
 os : V'.os = V.os
 tape : V'.tape = V.tape
 output : V'.output = V.output
 size : V.heap.size ≤ V'.heap.size
 blk : ∀ k o, V.heap[k]? = some o → (k < base ∨ ∃ c t f, o = .cells c t f ∧ t ≠ 63 ∧ t ≠ 5 ∧ t ≠ 22 ∧ t ≠ 51) → V'.heap[k]? = some o
theorem Keeps.refl (base : Nat) (V : World) : Keeps base V V := ⟨rfl, rfl, rfl, Nat.le_refl _, fun k o h _ => h⟩
theorem Keeps.trans {base : Nat} {V V' V'' : World} (h : Keeps base V V') (k : Keeps base V' V'') : Keeps base V V'' :=
 ⟨k.os.trans h.os, k.tape.trans h.tape, k.output.trans h.output, Nat.le_trans h.size k.size, fun i o h1 h2 => k.blk i o (h.blk i o h1 h2) h2⟩
theorem Keeps.of_below {base : Nat} {V V' : World} (h : Below V.heap.size V V') : Keeps base V V' :=
 ⟨h.os, h.tape, h.output, h.size, fun k o h1 _ => (h.block k (Array.getElem?_eq_some_iff.1 h1).1).trans h1⟩
theorem Keeps.below {base : Nat} {V V' : World} (h : Keeps base V V') (hb : base ≤ V.heap.size) : Below base V V' :=
 ⟨h.os, h.tape, h.output, h.size, fun k hk => by
  have hs : V.heap[k]? = some (V.heap[k]'(by omega)) := Array.getElem?_eq_getElem (by omega)
  rw [hs]; exact h.blk k _ hs (.inl hk)⟩
theorem Keeps.set {base : Nat} {V : World} {N k : Nat} {v : Value} {c : Array Value} {t : TypeId} {f : Nat × Nat} (hN : V.heap[N]? = some (.cells c t f)) (hb : base ≤ N) (ht : t = 63 ∨ t = 5 ∨ t = 22 ∨ t = 51) : Keeps base V (V.setCell ⟨N, k, none⟩ v) := by
 refine ⟨rfl, rfl, rfl, by simp, fun i o h1 h2 => ?_⟩
 have hne : i ≠ N := by
  rintro rfl
  rw [hN] at h1
  simp only [Option.some.injEq] at h1
  subst h1
  rcases h2 with h2 | ⟨c', t', f', e, h96, h5, h22, h54⟩
  ·omega
  ·simp only [Obj.cells.injEq] at e
   obtain ⟨_, rfl, _⟩ := e
   rcases ht with h | h | h | h <;> simp_all
 exact (Below.heap_setCell _ _ _ _ (fun e => hne e)).trans h1
theorem Keeps.grown {base : Nat} {V V' : World} {row : Option Nat} (g : V.grownBy V' row) (hr : ∀ k, row = some k → base ≤ k ∧ ∃ c t f, V.heap[k]? = some (.cells c t f) ∧ (t = 63 ∨ t = 5 ∨ t = 22 ∨ t = 51)) : Keeps base V V' := by
 refine ⟨g.os, g.tape, g.output, g.size, fun i o h1 h2 => ?_⟩
 refine (g.5 i (Array.getElem?_eq_some_iff.1 h1).1 (fun e => ?_)).trans h1
 obtain ⟨hb, c, t, f, hk, ht⟩ := hr i e.symm
 rw [hk] at h1
 simp only [Option.some.injEq] at h1
 subst h1
 rcases h2 with h2 | ⟨c', t', f', e, h96, h5, h22, h54⟩
 ·omega
 ·simp only [Obj.cells.injEq] at e
  obtain ⟨_, rfl, _⟩ := e
  rcases ht with h | h | h | h <;> simp_all
theorem own_kind {V : World} {base e size n : Nat} {v : Value} {xs : List Value} (h : V.ownsRow base e size v n xs) : ∀ k, v.ownBlock = some k → base ≤ k ∧ ∃ c f, V.heap[k]? = some (.cells c e f) := by
 intro k hk
 rcases h.2 with ⟨rfl, _⟩ | ⟨g, cap, cur, rfl, hb, hg, _⟩
 ·simp [Value.ownBlock] at hk
 ·simp [Value.ownBlock] at hk
  subst hk
  exact ⟨hb, cur, _, hg⟩
theorem low_keeps {base : Nat} {V V' : World} (h : Keeps base V V') {B : Nat} (hB : B < base) {k : Nat} {v : Value} (hc : V.cell? ⟨B, k, none⟩ = some v) : V'.cell? ⟨B, k, none⟩ = some v := by
 have hs : ∃ o, V.heap[B]? = some o := by
  cases e : V.heap[B]? with
  | none => simp [World.cell?, e] at hc
  | some o => exact ⟨o, rfl⟩
 obtain ⟨o, hs⟩ := hs
 have h2 := h.blk B o hs (.inl hB)
 unfold World.cell? at *
 rw [h2]
 rw [hs] at hc
 exact hc
theorem StrsLow.keeps {base : Nat} {V V' : World} {a : Option Addr} {l : List ByteArray} (h : StrsLow base V a l) (k : Keeps base V V') : StrsLow base V' a l := by
 intro j s hj
 obtain ⟨B, e, hB, hc, hs⟩ := h j s hj
 exact ⟨B, e, hB, low_keeps k hB hc, hs⟩
theorem RowLow.keeps {base : Nat} {V V' : World} {a : Option Addr} {kd : IntKind} {l : List Int} (h : RowLow base V a kd l) (k : Keeps base V V') : RowLow base V' a kd l := by
 intro j s hj
 obtain ⟨B, off, e, hB, hc⟩ := h j s hj
 exact ⟨B, off, e, hB, low_keeps k hB hc⟩
theorem MachAt.lt {E : Env} {V : World} {m : Mach} {sv ov : Value} (h : MachAt E V m sv ov) : E.B < V.heap.size := (Array.getElem?_eq_some_iff.1 h.blk).1
theorem MachAt.base {E : Env} {V : World} {m : Mach} {sv ov : Value} (h : MachAt E V m sv ov) : E.base ≤ V.heap.size := Nat.le_trans h.env.lowB (Nat.le_of_lt h.lt)
theorem MachAt.next {E : Env} {V V' : World} {m : Mach} {sv ov : Value} (h : MachAt E V m sv ov) (hb : Below V.heap.size V V') : MachAt E V' m sv ov := by
 have hk : Keeps E.base V V' := Keeps.of_below hb
 obtain ⟨cur, hr, hs, hc⟩ := h.ram
 exact ⟨(hb.block _ h.lt).trans h.blk, ⟨cur, (hb.block _ (Array.getElem?_eq_some_iff.1 hr).1).trans hr, hs, hc⟩, own_next h.st hb, own_next h.out hb, h.bnk.keeps hk, h.inp.keeps hk, h.irq.keeps hk, h.ok, h.env⟩
theorem MachAt.strs {E : Env} {V : World} {m : Mach} {sv ov : Value} (h : MachAt E V m sv ov) : StrsAt V E.pb E.banks := by
 intro k s hk
 obtain ⟨B, e, hB, hc, hs⟩ := h.bnk k s hk
 exact ⟨B, e, Nat.lt_of_lt_of_le hB h.base, hc, hs⟩
theorem MachAt.cell {E : Env} {V : World} {m : Mach} {sv ov : Value} (h : MachAt E V m sv ov) (k : Nat) (v : Value) (hk : (mcells E m sv ov)[k]? = some v) : V.cell? ⟨E.B, k, none⟩ = some v := by
 rw [Lib.cell_of_heap h.blk k]; simpa using hk
theorem MachAt.frz {E : Env} {V : World} {m : Mach} {sv ov : Value} (h : MachAt E V m sv ov) (k : Nat) : V.frozen? ⟨E.B, k, none⟩ = false := by
 unfold World.frozen?; rw [show V.heap[E.B]? = _ from h.blk]; simp
theorem setCell_blk {V : World} {B k : Nat} {c : Array Value} {t : TypeId} {f : Nat × Nat} {v : Value} (h : V.heap[B]? = some (.cells c t f)) : (V.setCell ⟨B, k, none⟩ v).heap[B]? = some (.cells (c.setIfInBounds k v) t f) := by
 unfold World.setCell
 simp only [Array.getElem?_modify, h]
 simp
theorem own_set' {w : World} {base e size n N j : Nat} {v u : Value} {xs : List Value} {c : Array Value} {t : TypeId} {f : Nat × Nat} (h : w.ownsRow base e size v n xs) (hN : w.heap[N]? = some (.cells c t f)) (ht : t ≠ e) : (w.setCell ⟨N, j, none⟩ u).ownsRow base e size v n xs := by
 refine h.kept (row := some N) ⟨rfl, rfl, rfl, by simp, fun k hk hne => Below.heap_setCell _ _ _ _ (fun e => hne (by rw [e]))⟩ ?_
 cases hv : v.ownBlock with
 | none => exact .inl rfl
 | some k =>
  refine .inr (fun e => ?_)
  simp only [Option.some.injEq] at e
  subst e
  obtain ⟨_, c', f', h'⟩ := own_kind h _ hv
  rw [hN] at h'
  simp only [Option.some.injEq, Obj.cells.injEq] at h'
  exact ht h'.2.1
/-- A store into the machine's own block. -/
theorem MachAt.put {E : Env} {V : World} {m m' : Mach} {sv ov sv' ov' : Value} (h : MachAt E V m sv ov) (k : Nat) (v : Value) (hc : mcells E m' sv' ov' = (mcells E m sv ov).set k v) (hr : m'.ram = m.ram)
  (hs : V.ownsRow E.base 22 1 sv' m'.st.length (m'.st.map (Value.int .u16))) (ho : V.ownsRow E.base 51 2 ov' m'.out.length (outC m'.out)) (ok : m'.Ok) : MachAt E (V.setCell ⟨E.B, k, none⟩ v) m' sv' ov' := by
 have hk : Keeps E.base V (V.setCell ⟨E.B, k, none⟩ v) := Keeps.set h.blk h.env.lowB (.inl rfl)
 obtain ⟨cur, hrr, hrs, hrc⟩ := h.ram
 refine ⟨?_, ⟨cur, ?_, hrs, by rw [hr]; exact hrc⟩, own_set' hs h.blk (by decide), own_set' ho h.blk (by decide), h.bnk.keeps hk, h.inp.keeps hk, h.irq.keeps hk, ok, h.env⟩
 ·rw [setCell_blk h.blk, hc]; simp
 ·refine (Below.heap_setCell _ _ _ _ (fun e => ?_)).trans hrr
  have := h.blk
  simp only at e
  rw [← e, hrr] at this
  simp at this
theorem MachAt.putK {E : Env} {V : World} {m : Mach} {sv ov : Value} (h : MachAt E V m sv ov) (k : Nat) (v : Value) : Keeps E.base V (V.setCell ⟨E.B, k, none⟩ v) := Keeps.set h.blk h.env.lowB (.inl rfl)
/-- A store into RAM. -/
def setRam (r : Nat → Int) (j : Nat) (v : Int) : Nat → Int := fun i => if i = j then v else r i
theorem MachAt.poke {E : Env} {V : World} {m : Mach} {sv ov : Value} (h : MachAt E V m sv ov) (j : Nat) (v : Int) (hj : j < 8192) (h0 : 0 ≤ v) (h1 : v < 256) : MachAt E (V.setCell ⟨E.ramB, j, none⟩ (.int .u8 v)) { m with ram := setRam m.ram j v } sv ov := by
 obtain ⟨cur, hrr, hrs, hrc⟩ := h.ram
 have hk : Keeps E.base V (V.setCell ⟨E.ramB, j, none⟩ (.int .u8 v)) := Keeps.set hrr h.env.lowR (.inr (.inl rfl))
 refine ⟨?_, ⟨cur.setIfInBounds j (.int .u8 v), setCell_blk hrr, by simpa using hrs, fun i hi => ?_⟩, own_set' h.st hrr (by decide), own_set' h.out hrr (by decide), h.bnk.keeps hk, h.inp.keeps hk, h.irq.keeps hk, ?_, h.env⟩
 ·refine (Below.heap_setCell _ _ _ _ (fun e => ?_)).trans h.blk
  simp only at e
  rw [← e, h.blk] at hrr
  simp at hrr
 ·rw [Array.getElem?_setIfInBounds]
  unfold setRam
  by_cases e : j = i
  ·subst e
   rw [if_pos rfl, if_pos (by omega)]
   simp
  ·rw [if_neg e, hrc i hi]
   simp [show ¬ i = j from fun q => e q.symm]
 ·obtain ⟨a1, a2, a3, a4, a5, a6, a7, a8, a9, a10, a11, a12, a13, a14⟩ := h.ok
  refine ⟨a1, a2, a3, a4, a5, a6, a7, a8, a9, fun i => ?_, a11, a12, a13, a14⟩
  dsimp only [setRam]
  split
  ·exact ⟨h0, h1⟩
  ·exact a10 i
theorem MachAt.pokeK {E : Env} {V : World} {m : Mach} {sv ov : Value} (h : MachAt E V m sv ov) (j : Nat) (v : Value) : Keeps E.base V (V.setCell ⟨E.ramB, j, none⟩ v) := by
 obtain ⟨cur, hrr, hrs, hrc⟩ := h.ram
 exact Keeps.set hrr h.env.lowR (.inr (.inl rfl))
theorem MachAt.ramC {E : Env} {V : World} {m : Mach} {sv ov : Value} (h : MachAt E V m sv ov) (j : Nat) (hj : j < 8192) : V.cell? ⟨E.ramB, j, none⟩ = some (.int .u8 (m.ram j)) ∧ V.frozen? ⟨E.ramB, j, none⟩ = false := by
 obtain ⟨cur, hrr, hrs, hrc⟩ := h.ram
 refine ⟨by rw [Lib.cell_of_heap hrr j]; exact hrc j hj, ?_⟩
 unfold World.frozen?; rw [show V.heap[E.ramB]? = _ from hrr]; simp
end Go.Proofs.YtieaicdihingkaaGreat
