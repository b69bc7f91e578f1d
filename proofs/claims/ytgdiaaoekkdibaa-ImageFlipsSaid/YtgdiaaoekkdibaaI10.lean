/- Contracts of Code and its reference. -/
import Derived.Test.YtgdiaaoekkdibaaI8
import Derived.Laws.ResultCell
namespace Go.Proofs.Ytgdiaaoekkdibaa
set_option linter.unusedVariables false
set_option linter.unusedSimpArgs false
open Go.RowKit
def bankAt (banks : List ByteArray) (b : Int) : ByteArray := (banks[b.toNat]?).getD ⟨#[]⟩
def codeI (banks : List ByteArray) (b a n : Int) : ByteArray :=
  if (offI banks b a).2.2 = true ∧ 1 ≤ n then
    ((bankAt banks b).extract (a % 4096).toNat (bankAt banks b).size).extract 0 (min n ((bankAt banks b).extract (a % 4096).toNat (bankAt banks b).size).size).toNat
  else ⟨#[]⟩
theorem offI_cases (banks : List ByteArray) (b a : Int) : offI banks b a = (0, 0, false) ∨ (offI banks b a = (b, a % 4096, true) ∧ isCode b a ∧ b < banks.length ∧ a % 4096 < (bankAt banks b).size) := by
  unfold offI
  split
  · rename_i h; exact .inr ⟨rfl, h.1, h.2.1, h.2.2⟩
  · exact .inl rfl
theorem codeI_no (banks : List ByteArray) (b a n : Int) (h : ¬ ((offI banks b a).2.2 = true ∧ 1 ≤ n)) : codeI banks b a n = ⟨#[]⟩ := if_neg h
theorem codeI_yes (banks : List ByteArray) (b a n : Int) (s : ByteArray) (h : (offI banks b a).2.2 = true) (h1 : 1 ≤ n) (hs : bankAt banks b = s) : codeI banks b a n = (s.extract (a % 4096).toNat s.size).extract 0 (min n (s.extract (a % 4096).toNat s.size).size).toNat := by
  subst hs; exact if_pos ⟨h, h1⟩
theorem ret_str {s t : ByteArray} (h : s = t) : Ending.returned (.string s) = .returned (.string t) := by rw [h]
theorem two_cuts (s : ByteArray) (o : Nat) (n : Int) (h : o ≤ s.size) (hn : 1 ≤ n) : s.extract o (o + min n (s.size - o : Int)).toNat = (s.extract o s.size).extract 0 (min n ((s.extract o s.size).size : Int)).toNat := by
  have e : ((s.extract o s.size).size : Int) = s.size - o := by rw [ByteArray.size_extract]; omega
  rw [e]
  apply ByteArray.ext
  simp only [ByteArray.data_extract]
  rw [Array.extract_extract]
  congr 1
  have : s.data.size = s.size := rfl
  omega
set_option maxRecDepth 4000 in
set_option maxHeartbeats 2000000 in
theorem code1_any (p1 : Option Addr) (c1 : Nat) (p2 : Option Addr) (c2 : Nat) (p3 : Option Addr) (c3 : Nat) (I : Img) (b a n : Int) (w : World) (hI : ImgAt w p1 p2 p3 I) (hb : OkI64 b) (ha : OkU16 a) (hn : OkI64 n) :
    Calls Try.prog 28 #[imgV p1 c1 p2 c2 p3 c3 I, .agg #[.int .i64 b, .int .u16 a], .int .i64 n] w fun e w' => e = .returned (.string (codeI I.banks b a n)) ∧ Below w.heap.size w w' := by
  obtain ⟨banks, entry, vector, data, l⟩ := I
  have HI := Lib.hid hI
  have hO := fun (w : World) (h : ImgAt w p1 p2 p3 ⟨banks, entry, vector, data, l⟩) => offset_any p1 c1 p2 c2 p3 c3 ⟨banks, entry, vector, data, l⟩ b a w h hb ha
  have HS := Lib.hid hI.banks
  clear hI
  dsimp only at hO
  show Calls Try.prog 28 #[.agg #[.slice p1 banks.length c1, .int .u16 entry, .int .u16 vector, .slice p2 data.length c2, .slice p3 l.length c3], .agg #[.int .i64 b, .int .u16 a], .int .i64 n] w fun e w' => e = .returned (.string (codeI banks b a n)) ∧ Below w.heap.size w w'
  obtain ⟨b0, b1⟩ := hb
  obtain ⟨a0, a1⟩ := ha
  obtain ⟨n0, n1⟩ := hn
  have hW1 := below_alloc (below1 w (Obj.cells #[Value.slice p1 banks.length c1, Value.int IntKind.u16 entry, Value.int IntKind.u16 vector, Value.slice p2 data.length c2, Value.slice p3 l.length c3] 30)) (Obj.cells #[Value.int IntKind.i64 b, Value.int IntKind.u16 a] 55)
  have y0 : ((w.alloc (Obj.cells #[Value.slice p1 banks.length c1, Value.int IntKind.u16 entry, Value.int IntKind.u16 vector, Value.slice p2 data.length c2, Value.slice p3 l.length c3] 30)).alloc (Obj.cells #[Value.int IntKind.i64 b, Value.int IntKind.u16 a] 55)).cell? ⟨w.heap.size, 0, none⟩ = some (.slice p1 banks.length c1) := by simp [go_sem]
  have hs0 : w.heap.size < ((w.alloc (Obj.cells #[Value.slice p1 banks.length c1, Value.int IntKind.u16 entry, Value.int IntKind.u16 vector, Value.slice p2 data.length c2, Value.slice p3 l.length c3] 30)).alloc (Obj.cells #[Value.int IntKind.i64 b, Value.int IntKind.u16 a] 55)).heap.size := by simp; omega
  have HW1 := Lib.hid hW1
  clear hW1
  rcases offI_cases banks b a with hc | ⟨hc, hcode, hl, hm⟩
  · have HR := Lib.hid (codeI_no banks b a n (by rw [hc]; simp))
    rw [hc] at hO
    have HO := Lib.hid hO
    clear hO hc
    go_enter Try.func28, Try.ntmps28
    go_wp2_with (go_at_call 26; refine (HO.out _ (HI.out.kept HW1.out)).mono ?_; rintro e w2 ⟨rfl, h2⟩; have z0 := (h2.cell (p := ⟨w.heap.size, 0, none⟩) hs0).trans y0)
    go_ret
    exact ⟨ret_str HR.out.symm, below_next HW1.out h2⟩
  have b2 : 0 ≤ b := hcode.1
  clear hcode
  by_cases h1 : n < 1
  · have HR := Lib.hid (codeI_no banks b a n (by omega))
    rw [hc] at hO
    have HO := Lib.hid hO
    clear hO hc hm
    go_enter Try.func28, Try.ntmps28
    go_wp2_with (go_at_call 26; refine (HO.out _ (HI.out.kept HW1.out)).mono ?_; rintro e w2 ⟨rfl, h2⟩; have z0 := (h2.cell (p := ⟨w.heap.size, 0, none⟩) hs0).trans y0)
    go_ret
    exact ⟨ret_str HR.out.symm, below_next HW1.out h2⟩
  obtain ⟨s, hs⟩ := at_some banks b.toNat (by omega)
  have hbk : bankAt banks b = s := by unfold bankAt; rw [hs]; rfl
  have HR := Lib.hid (codeI_yes banks b a n s (by rw [hc]) (by omega) hbk)
  rw [hbk] at hm
  rw [hc] at hO
  have HO := Lib.hid hO
  obtain ⟨B, rfl, hBs, e0, hss⟩ := (HS.out.kept HW1.out) b.toNat s hs
  unfold maxLen at hss
  clear hO hc hs hbk
  obtain ⟨M, hM⟩ : ∃ M : Nat, a % 4096 = (M : Int) := ⟨(a % 4096).toNat, by omega⟩
  rw [hM] at HO HR hm
  have hm2 : M ≤ s.size := by omega
  have hm3 : (M : Int) ≤ s.size := by omega
  have hmn : (M : Int).toNat = M := by omega
  have HT := Lib.hid (two_cuts s M n hm2 (by omega))
  rw [hmn] at HR
  generalize hP : s.extract M s.size = P at HR HT
  have hPz : (P.size : Int) = s.size - M := by rw [← hP, ByteArray.size_extract]; omega
  have hPz2 : P.size ≤ 9223372036854775807 := by omega
  have hw1 : IntKind.i64.wrap ((s.size : Int) - M) = s.size - M := IntWalk.i64_in _ (by omega)
  have hmi0 : 0 ≤ min n (P.size : Int) := by omega
  have hmi1 : min n (P.size : Int) ≤ P.size := by omega
  have hmj0 : 0 ≤ min n ((s.size : Int) - M) := by omega
  have hmj1 : (M : Int) + min n ((s.size : Int) - M) ≤ s.size := by omega
  have hw2 : IntKind.i64.wrap ((M : Int) + min n ((s.size : Int) - M)) = M + min n ((s.size : Int) - M) := IntWalk.i64_in _ (by omega)
  have hmj2 : (M : Int) ≤ M + min n ((s.size : Int) - M) := by omega
  clear hM
  go_enter Try.func28, Try.ntmps28
  go_wp2_with (go_at_call 26; refine (HO.out _ (HI.out.kept HW1.out)).mono ?_; rintro e w2 ⟨rfl, h2⟩; have z0 := (h2.cell (p := ⟨w.heap.size, 0, none⟩) hs0).trans y0; have e1 := (h2.cell hBs).trans e0)
  all_goals
    go_ret
    refine ⟨ret_str ?_, below_next HW1.out h2⟩
    first
      | (rw [HR.out]; congr 1; omega)
      | (rw [HR.out, ← HT.out]; congr 1; omega)
set_option maxRecDepth 4000 in
set_option maxHeartbeats 2000000 in
theorem rcode1_any (p1 : Option Addr) (c1 : Nat) (p2 : Option Addr) (c2 : Nat) (p3 : Option Addr) (c3 : Nat) (I : Img) (b a n : Int) (w : World) (hI : ImgAt w p1 p2 p3 I) (hb : OkI64 b) (ha : OkU16 a) (hn : OkI64 n) :
    Calls Try.prog 29 #[imgV p1 c1 p2 c2 p3 c3 I, .agg #[.int .i64 b, .int .u16 a], .int .i64 n] w fun e w' => e = .returned (.string (codeI I.banks b a n)) ∧ Below w.heap.size w w' := by
  obtain ⟨banks, entry, vector, data, l⟩ := I
  have HI := Lib.hid hI
  have hO := fun (w : World) (h : ImgAt w p1 p2 p3 ⟨banks, entry, vector, data, l⟩) => roffset_any p1 c1 p2 c2 p3 c3 ⟨banks, entry, vector, data, l⟩ b a w h hb ha
  have HS := Lib.hid hI.banks
  clear hI
  dsimp only at hO
  show Calls Try.prog 29 #[.agg #[.slice p1 banks.length c1, .int .u16 entry, .int .u16 vector, .slice p2 data.length c2, .slice p3 l.length c3], .agg #[.int .i64 b, .int .u16 a], .int .i64 n] w fun e w' => e = .returned (.string (codeI banks b a n)) ∧ Below w.heap.size w w'
  obtain ⟨b0, b1⟩ := hb
  obtain ⟨a0, a1⟩ := ha
  obtain ⟨n0, n1⟩ := hn
  have hW1 := below_alloc (below1 w (Obj.cells #[Value.slice p1 banks.length c1, Value.int IntKind.u16 entry, Value.int IntKind.u16 vector, Value.slice p2 data.length c2, Value.slice p3 l.length c3] 30)) (Obj.cells #[Value.int IntKind.i64 b, Value.int IntKind.u16 a] 55)
  have y0 : ((w.alloc (Obj.cells #[Value.slice p1 banks.length c1, Value.int IntKind.u16 entry, Value.int IntKind.u16 vector, Value.slice p2 data.length c2, Value.slice p3 l.length c3] 30)).alloc (Obj.cells #[Value.int IntKind.i64 b, Value.int IntKind.u16 a] 55)).cell? ⟨w.heap.size, 0, none⟩ = some (.slice p1 banks.length c1) := by simp [go_sem]
  have hs0 : w.heap.size < ((w.alloc (Obj.cells #[Value.slice p1 banks.length c1, Value.int IntKind.u16 entry, Value.int IntKind.u16 vector, Value.slice p2 data.length c2, Value.slice p3 l.length c3] 30)).alloc (Obj.cells #[Value.int IntKind.i64 b, Value.int IntKind.u16 a] 55)).heap.size := by simp; omega
  have HW1 := Lib.hid hW1
  clear hW1
  rcases offI_cases banks b a with hc | ⟨hc, hcode, hl, hm⟩
  · have HR := Lib.hid (codeI_no banks b a n (by rw [hc]; simp))
    rw [hc] at hO
    have HO := Lib.hid hO
    clear hO hc
    go_enter Try.func29, Try.ntmps29
    go_wp2_with (go_at_call 27; refine (HO.out _ (HI.out.kept HW1.out)).mono ?_; rintro e w2 ⟨rfl, h2⟩; have z0 := (h2.cell (p := ⟨w.heap.size, 0, none⟩) hs0).trans y0)
    go_ret
    exact ⟨ret_str HR.out.symm, below_next HW1.out h2⟩
  have b2 : 0 ≤ b := hcode.1
  clear hcode
  by_cases h1 : n < 1
  · have HR := Lib.hid (codeI_no banks b a n (by omega))
    rw [hc] at hO
    have HO := Lib.hid hO
    clear hO hc hm
    go_enter Try.func29, Try.ntmps29
    go_wp2_with (go_at_call 27; refine (HO.out _ (HI.out.kept HW1.out)).mono ?_; rintro e w2 ⟨rfl, h2⟩; have z0 := (h2.cell (p := ⟨w.heap.size, 0, none⟩) hs0).trans y0)
    go_ret
    exact ⟨ret_str HR.out.symm, below_next HW1.out h2⟩
  obtain ⟨s, hs⟩ := at_some banks b.toNat (by omega)
  have hbk : bankAt banks b = s := by unfold bankAt; rw [hs]; rfl
  have HR := Lib.hid (codeI_yes banks b a n s (by rw [hc]) (by omega) hbk)
  rw [hbk] at hm
  rw [hc] at hO
  have HO := Lib.hid hO
  obtain ⟨B, rfl, hBs, e0, hss⟩ := (HS.out.kept HW1.out) b.toNat s hs
  unfold maxLen at hss
  clear hO hc hs hbk
  obtain ⟨M, hM⟩ : ∃ M : Nat, a % 4096 = (M : Int) := ⟨(a % 4096).toNat, by omega⟩
  rw [hM] at HO HR hm
  have hm2 : M ≤ s.size := by omega
  have hm3 : (M : Int) ≤ s.size := by omega
  have hmn : (M : Int).toNat = M := by omega
  have HT := Lib.hid (two_cuts s M n hm2 (by omega))
  rw [hmn] at HR
  generalize hP : s.extract M s.size = P at HR HT
  have hPz : (P.size : Int) = s.size - M := by rw [← hP, ByteArray.size_extract]; omega
  have hPz2 : P.size ≤ 9223372036854775807 := by omega
  have hw1 : IntKind.i64.wrap ((s.size : Int) - M) = s.size - M := IntWalk.i64_in _ (by omega)
  have hmi0 : 0 ≤ min n (P.size : Int) := by omega
  have hmi1 : min n (P.size : Int) ≤ P.size := by omega
  have hmj0 : 0 ≤ min n ((s.size : Int) - M) := by omega
  have hmj1 : (M : Int) + min n ((s.size : Int) - M) ≤ s.size := by omega
  have hw2 : IntKind.i64.wrap ((M : Int) + min n ((s.size : Int) - M)) = M + min n ((s.size : Int) - M) := IntWalk.i64_in _ (by omega)
  have hmj2 : (M : Int) ≤ M + min n ((s.size : Int) - M) := by omega
  clear hM hPz hPz2 hmi0 hmi1 hP
  clear hmj0 hmj1 hmj2 hw2
  by_cases h9 : n ≤ (s.size : Int) - M
  · have hw9 : IntKind.i64.wrap ((M : Int) + n) = M + n := IntWalk.i64_in _ (by omega)
    have h10 : (M : Int) + n ≤ s.size := by omega
    have h11 : (M : Int) ≤ M + n := by omega
    have h12 : (0 : Int) ≤ M + n := by omega
    go_enter Try.func29, Try.ntmps29
    go_wp2_with (go_at_call 27; refine (HO.out _ (HI.out.kept HW1.out)).mono ?_; rintro e w2 ⟨rfl, h2⟩; have z0 := (h2.cell (p := ⟨w.heap.size, 0, none⟩) hs0).trans y0; have e1 := (h2.cell hBs).trans e0)
    all_goals
      go_ret
      refine ⟨ret_str ?_, below_next HW1.out h2⟩
      first
        | (rw [HR.out]; congr 1; omega)
        | (rw [HR.out, ← HT.out]; congr 1; omega)
  · have hw9 : IntKind.i64.wrap ((s.size : Int)) = s.size := IntWalk.i64_in _ (by omega)
    have h13 : (M : Int) + (s.size - M) = s.size := by omega
    have h14 : (0 : Int) ≤ s.size := by omega
    go_enter Try.func29, Try.ntmps29
    go_wp2_with (go_at_call 27; refine (HO.out _ (HI.out.kept HW1.out)).mono ?_; rintro e w2 ⟨rfl, h2⟩; have z0 := (h2.cell (p := ⟨w.heap.size, 0, none⟩) hs0).trans y0; have e1 := (h2.cell hBs).trans e0)
    all_goals
      go_ret
      refine ⟨ret_str ?_, below_next HW1.out h2⟩
      first
        | (rw [HR.out]; congr 1; omega)
        | (rw [HR.out, ← HT.out]; congr 1; omega)
end Go.Proofs.Ytgdiaaoekkdibaa
namespace Go.Proofs.Ytgdiaaoekkdibaa
set_option linter.unusedVariables false
set_option linter.unusedSimpArgs false
open Go.RowKit
def nextI (b a n : Int) : Int × Int × Bool := if isCode b a ∧ -(a % 4096) ≤ n ∧ n < 4096 - a % 4096 then (b, a + n, true) else (0, 0, false)
theorem nextI_yes (b a n : Int) (h : isCode b a) (h1 : -(a % 4096) ≤ n) (h2 : n < 4096 - a % 4096) : nextI b a n = (b, a + n, true) := if_pos ⟨h, h1, h2⟩
theorem nextI_no (b a n : Int) (h : ¬ (isCode b a ∧ -(a % 4096) ≤ n ∧ n < 4096 - a % 4096)) : nextI b a n = (0, 0, false) := if_neg h
theorem place_eq {x y : Int × Int × Bool} (h : x = y) : Ending.returned (.tuple #[.agg #[.int .i64 x.1, .int .u16 x.2.1], .bool x.2.2]) = .returned (.tuple #[.agg #[.int .i64 y.1, .int .u16 y.2.1], .bool y.2.2]) := by rw [h]
theorem code_ex (b a : Int) (B : Bool) (w : World) (hb : OkI64 b) (ha : OkU16 a) (hB : decide (isCode b a) = B) :
    Calls Try.prog 63 #[.agg #[.int .i64 b, .int .u16 a]] w fun e w' => e = .returned (.bool B) ∧ w.alloc (.cells #[.int .i64 b, .int .u16 a] 55) = w' := by
  obtain ⟨b0, b1⟩ := hb
  obtain ⟨a0, a1⟩ := ha
  have HB : Hid (B = true ↔ isCode b a) := by show _ ↔ _; rw [← hB]; exact decide_eq_true_iff
  clear hB
  go_enter Try.func63, Try.ntmps63
  go_wp2
  all_goals
    go_ret
    refine ⟨?_, by first | rfl | simp [*]⟩
    refine ret_bool ?_
    rw [Bool.eq_iff_iff, HB.out]
    unfold isCode
    simp
    try omega
theorem iscode_ex (b a : Int) (B : Bool) (w : World) (hb : OkI64 b) (ha : OkU16 a) (hB : decide (isCode b a) = B) :
    Calls Try.prog 64 #[.agg #[.int .i64 b, .int .u16 a]] w fun e w' => e = .returned (.bool B) ∧ w.alloc (.cells #[.int .i64 b, .int .u16 a] 55) = w' := by
  obtain ⟨b0, b1⟩ := hb
  obtain ⟨a0, a1⟩ := ha
  have HB : Hid (B = true ↔ isCode b a) := by show _ ↔ _; rw [← hB]; exact decide_eq_true_iff
  clear hB
  go_enter Try.func64, Try.ntmps64
  go_wp2
  all_goals
    go_ret
    refine ⟨?_, by first | rfl | simp [*]⟩
    refine ret_bool ?_
    rw [Bool.eq_iff_iff, HB.out]
    unfold isCode
    simp
    try omega
set_option maxHeartbeats 2000000 in
theorem next_any (b a n : Int) (w : World) (hb : OkI64 b) (ha : OkU16 a) (hn : OkI64 n) :
    Calls Try.prog 34 #[.agg #[.int .i64 b, .int .u16 a], .int .i64 n] w fun e w' => e = .returned (.tuple #[.agg #[.int .i64 (nextI b a n).1, .int .u16 (nextI b a n).2.1], .bool (nextI b a n).2.2]) ∧ Below w.heap.size w w' := by
  obtain ⟨b0, b1⟩ := hb
  obtain ⟨a0, a1⟩ := ha
  obtain ⟨n0, n1⟩ := hn
  obtain ⟨M, hM⟩ : ∃ M, a % 4096 = M := ⟨_, rfl⟩
  have m0 : 0 ≤ M := by omega
  have m1 : M < 4096 := by omega
  have m2 : M ≤ a := by omega
  have HM := Lib.hid hM
  have ht : a.tmod 4096 = M := by rw [Int.tmod_eq_emod_of_nonneg a0]; exact hM
  have hw : IntKind.u16.wrap M = M := wrap_in _ m0 (by omega)
  have hw2 : IntKind.i64.wrap M = M := IntWalk.i64_in _ (by omega)
  have hw3 : IntKind.i64.wrap (-M) = -M := IntWalk.i64_in _ (by omega)
  have hw4 : IntKind.i64.wrap (4096 - M) = 4096 - M := IntWalk.i64_in _ (by omega)
  have hw5 : IntKind.i64.wrap a = a := IntWalk.i64_in _ (by omega)
  by_cases hc : isCode b a
  rotate_left
  · have HR := Lib.hid (nextI_no b a n (fun h => hc h.1))
    have HC := Lib.hid (show decide (isCode b a) = false from decide_eq_false hc)
    clear hc hM
    go_enter Try.func34, Try.ntmps34
    go_wp2_with (go_at_call 63; refine (code_ex b a _ _ ⟨b0, b1⟩ ⟨a0, a1⟩ HC.out).mono ?_; rintro e w2 ⟨rfl, rfl⟩)
    refine bodyPost_ret (v := .tuple #[.agg #[.int .i64 0, .int .u16 0], .bool false]) ?_ rfl ⟨?_, ?_⟩
    · rw [results_cell_tmp rfl]
      go_simp
    · exact place_eq (x := (0, 0, false)) HR.out.symm
    · repeat' (first | exact Below.refl _ _ | exact below1 _ _ | refine below_alloc ?_ _ | refine Below.setCell ?_ (by simp <;> omega) _)
  have HC := Lib.hid (show decide (isCode b a) = true from decide_eq_true hc)
  have a2 : a < 8192 := by have := hc.2.2; omega
  have Hc := Lib.hid hc
  clear hc hM
  by_cases h1 : n < -M
  · have HR := Lib.hid (nextI_no b a n (fun h => by have := HM.out; omega))
    go_enter Try.func34, Try.ntmps34
    go_wp2_with (go_at_call 63; refine (code_ex b a _ _ ⟨b0, b1⟩ ⟨a0, a1⟩ HC.out).mono ?_; rintro e w2 ⟨rfl, rfl⟩)
    refine bodyPost_ret (v := .tuple #[.agg #[.int .i64 0, .int .u16 0], .bool false]) ?_ rfl ⟨?_, ?_⟩
    · rw [results_cell_tmp rfl]
      go_simp
    · exact place_eq (x := (0, 0, false)) HR.out.symm
    · repeat' (first | exact Below.refl _ _ | exact below1 _ _ | refine below_alloc ?_ _ | refine Below.setCell ?_ (by simp <;> omega) _)
  by_cases h2 : 4096 - M ≤ n
  · have HR := Lib.hid (nextI_no b a n (fun h => by have := HM.out; omega))
    go_enter Try.func34, Try.ntmps34
    go_wp2_with (go_at_call 63; refine (code_ex b a _ _ ⟨b0, b1⟩ ⟨a0, a1⟩ HC.out).mono ?_; rintro e w2 ⟨rfl, rfl⟩)
    refine bodyPost_ret (v := .tuple #[.agg #[.int .i64 0, .int .u16 0], .bool false]) ?_ rfl ⟨?_, ?_⟩
    · rw [results_cell_tmp rfl]
      go_simp
    · exact place_eq (x := (0, 0, false)) HR.out.symm
    · repeat' (first | exact Below.refl _ _ | exact below1 _ _ | refine below_alloc ?_ _ | refine Below.setCell ?_ (by simp <;> omega) _)
  have HR := Lib.hid (nextI_yes b a n Hc.out (by have := HM.out; omega) (by have := HM.out; omega))
  have hw6 : IntKind.i64.wrap (a + n) = a + n := IntWalk.i64_in _ (by omega)
  have hw7 : IntKind.u16.wrap (a + n) = a + n := wrap_in _ (by omega) (by omega)
  go_enter Try.func34, Try.ntmps34
  go_wp2_with (go_at_call 63; refine (code_ex b a _ _ ⟨b0, b1⟩ ⟨a0, a1⟩ HC.out).mono ?_; rintro e w2 ⟨rfl, rfl⟩)
  refine bodyPost_ret (v := .tuple #[.agg #[.int .i64 b, .int .u16 (a + n)], .bool true]) ?_ rfl ⟨?_, ?_⟩
  · rw [results_cell_tmp rfl]
    go_simp
  · exact place_eq (x := (b, a + n, true)) HR.out.symm
  · repeat' (first | exact Below.refl _ _ | exact below1 _ _ | refine below_alloc ?_ _ | refine Below.setCell ?_ (by simp <;> omega) _)
set_option maxHeartbeats 2000000 in
theorem rnext_any (b a n : Int) (w : World) (hb : OkI64 b) (ha : OkU16 a) (hn : OkI64 n) :
    Calls Try.prog 35 #[.agg #[.int .i64 b, .int .u16 a], .int .i64 n] w fun e w' => e = .returned (.tuple #[.agg #[.int .i64 (nextI b a n).1, .int .u16 (nextI b a n).2.1], .bool (nextI b a n).2.2]) ∧ Below w.heap.size w w' := by
  obtain ⟨b0, b1⟩ := hb
  obtain ⟨a0, a1⟩ := ha
  obtain ⟨n0, n1⟩ := hn
  obtain ⟨M, hM⟩ : ∃ M, a % 4096 = M := ⟨_, rfl⟩
  have m0 : 0 ≤ M := by omega
  have m1 : M < 4096 := by omega
  have m2 : M ≤ a := by omega
  have HM := Lib.hid hM
  have ht : a.tmod 4096 = M := by rw [Int.tmod_eq_emod_of_nonneg a0]; exact hM
  have hw : IntKind.u16.wrap M = M := wrap_in _ m0 (by omega)
  have hw2 : IntKind.i64.wrap M = M := IntWalk.i64_in _ (by omega)
  have hw3 : IntKind.i64.wrap (-M) = -M := IntWalk.i64_in _ (by omega)
  have hw4 : IntKind.i64.wrap (4096 - M) = 4096 - M := IntWalk.i64_in _ (by omega)
  have hw5 : IntKind.i64.wrap a = a := IntWalk.i64_in _ (by omega)
  by_cases hc : isCode b a
  rotate_left
  · have HR := Lib.hid (nextI_no b a n (fun h => hc h.1))
    have HC := Lib.hid (show decide (isCode b a) = false from decide_eq_false hc)
    clear hc hM
    go_enter Try.func35, Try.ntmps35
    go_wp2_with (go_at_call 64; refine (iscode_ex b a _ _ ⟨b0, b1⟩ ⟨a0, a1⟩ HC.out).mono ?_; rintro e w2 ⟨rfl, rfl⟩)
    refine bodyPost_ret (v := .tuple #[.agg #[.int .i64 0, .int .u16 0], .bool false]) ?_ rfl ⟨?_, ?_⟩
    · rw [results_cell_tmp rfl]
      go_simp
    · exact place_eq (x := (0, 0, false)) HR.out.symm
    · repeat' (first | exact Below.refl _ _ | exact below1 _ _ | refine below_alloc ?_ _ | refine Below.setCell ?_ (by simp <;> omega) _)
  have HC := Lib.hid (show decide (isCode b a) = true from decide_eq_true hc)
  have a2 : a < 8192 := by have := hc.2.2; omega
  have Hc := Lib.hid hc
  clear hc hM
  by_cases h1 : n < -8192
  · have HR := Lib.hid (nextI_no b a n (fun h => by have := HM.out; omega))
    go_enter Try.func35, Try.ntmps35
    go_wp2_with (go_at_call 64; refine (iscode_ex b a _ _ ⟨b0, b1⟩ ⟨a0, a1⟩ HC.out).mono ?_; rintro e w2 ⟨rfl, rfl⟩)
    refine bodyPost_ret (v := .tuple #[.agg #[.int .i64 0, .int .u16 0], .bool false]) ?_ rfl ⟨?_, ?_⟩
    · rw [results_cell_tmp rfl]
      go_simp
    · exact place_eq (x := (0, 0, false)) HR.out.symm
    · repeat' (first | exact Below.refl _ _ | exact below1 _ _ | refine below_alloc ?_ _ | refine Below.setCell ?_ (by simp <;> omega) _)
  by_cases h2 : 8192 < n
  · have HR := Lib.hid (nextI_no b a n (fun h => by have := HM.out; omega))
    go_enter Try.func35, Try.ntmps35
    go_wp2_with (go_at_call 64; refine (iscode_ex b a _ _ ⟨b0, b1⟩ ⟨a0, a1⟩ HC.out).mono ?_; rintro e w2 ⟨rfl, rfl⟩)
    refine bodyPost_ret (v := .tuple #[.agg #[.int .i64 0, .int .u16 0], .bool false]) ?_ rfl ⟨?_, ?_⟩
    · rw [results_cell_tmp rfl]
      go_simp
    · exact place_eq (x := (0, 0, false)) HR.out.symm
    · repeat' (first | exact Below.refl _ _ | exact below1 _ _ | refine below_alloc ?_ _ | refine Below.setCell ?_ (by simp <;> omega) _)
  have hw6 : IntKind.i64.wrap (a + n) = a + n := IntWalk.i64_in _ (by omega)
  by_cases h3 : a + n < 0
  · have HR := Lib.hid (nextI_no b a n (fun h => by have := HM.out; omega))
    go_enter Try.func35, Try.ntmps35
    go_wp2_with (go_at_call 64; refine (iscode_ex b a _ _ ⟨b0, b1⟩ ⟨a0, a1⟩ HC.out).mono ?_; rintro e w2 ⟨rfl, rfl⟩)
    refine bodyPost_ret (v := .tuple #[.agg #[.int .i64 0, .int .u16 0], .bool false]) ?_ rfl ⟨?_, ?_⟩
    · rw [results_cell_tmp rfl]
      go_simp
    · exact place_eq (x := (0, 0, false)) HR.out.symm
    · repeat' (first | exact Below.refl _ _ | exact below1 _ _ | refine below_alloc ?_ _ | refine Below.setCell ?_ (by simp <;> omega) _)
  have d1 : (a + n).tdiv 4096 = (a + n) / 4096 := Int.tdiv_eq_ediv_of_nonneg (by omega)
  have d2 : a.tdiv 4096 = a / 4096 := Int.tdiv_eq_ediv_of_nonneg a0
  have d3 : IntKind.i64.wrap ((a + n) / 4096) = (a + n) / 4096 := IntWalk.i64_in _ (by omega)
  have d4 : IntKind.i64.wrap (a / 4096) = a / 4096 := IntWalk.i64_in _ (by omega)
  by_cases h4 : (a + n) / 4096 = a / 4096
  rotate_left
  · have HR := Lib.hid (nextI_no b a n (fun h => by have := HM.out; omega))
    have h5 : ((a + n) / 4096 != a / 4096) = true := by simpa using h4
    go_enter Try.func35, Try.ntmps35
    go_wp2_with (go_at_call 64; refine (iscode_ex b a _ _ ⟨b0, b1⟩ ⟨a0, a1⟩ HC.out).mono ?_; rintro e w2 ⟨rfl, rfl⟩)
    refine bodyPost_ret (v := .tuple #[.agg #[.int .i64 0, .int .u16 0], .bool false]) ?_ rfl ⟨?_, ?_⟩
    · rw [results_cell_tmp rfl]
      go_simp
    · exact place_eq (x := (0, 0, false)) HR.out.symm
    · repeat' (first | exact Below.refl _ _ | exact below1 _ _ | refine below_alloc ?_ _ | refine Below.setCell ?_ (by simp <;> omega) _)
  have h5 : ((a + n) / 4096 != a / 4096) = false := by simpa using h4
  have HR := Lib.hid (nextI_yes b a n Hc.out (by have := HM.out; omega) (by have := HM.out; omega))
  have hw7 : IntKind.u16.wrap (a + n) = a + n := wrap_in _ (by omega) (by omega)
  clear h4
  go_enter Try.func35, Try.ntmps35
  go_wp2_with (go_at_call 64; refine (iscode_ex b a _ _ ⟨b0, b1⟩ ⟨a0, a1⟩ HC.out).mono ?_; rintro e w2 ⟨rfl, rfl⟩)
  refine bodyPost_ret (v := .tuple #[.agg #[.int .i64 b, .int .u16 (a + n)], .bool true]) ?_ rfl ⟨?_, ?_⟩
  · rw [results_cell_tmp rfl]
    go_simp
  · exact place_eq (x := (b, a + n, true)) HR.out.symm
  · repeat' (first | exact Below.refl _ _ | exact below1 _ _ | refine below_alloc ?_ _ | refine Below.setCell ?_ (by simp <;> omega) _)
end Go.Proofs.Ytgdiaaoekkdibaa
namespace Go.Proofs.Ytgdiaaoekkdibaa
set_option linter.unusedVariables false
set_option linter.unusedSimpArgs false
open Go.RowKit
theorem mod_twice (n m : Int) (hm : 1 ≤ m) : (n.tmod m + m).tmod m = n % m := by
  have h0 : 0 ≤ n.tmod m + m := by
    have := Int.lt_tmod_of_pos n (show 0 < m by omega)
    omega
  rw [Int.tmod_eq_emod_of_nonneg h0, Int.add_emod_right, Int.tmod_def, Int.sub_emod, Int.mul_emod_right, Int.sub_zero, Int.emod_emod_of_dvd n (Int.dvd_refl m)]
theorem mod_any (n m : Int) (w : World) (hn : OkI64 n) (h1 : 1 ≤ m) (h2 : m ≤ 4611686018427387904) :
    Calls Try.prog 20 #[.int .i64 n, .int .i64 m] w fun e w' => e = .returned (.int .i64 (n % m)) ∧ w = w' := by
  obtain ⟨n0, n1⟩ := hn
  have b0 := Int.lt_tmod_of_pos n (show 0 < m by omega)
  have b1 := Int.tmod_lt_of_pos n (show 0 < m by omega)
  have e0 := Int.emod_nonneg n (show m ≠ 0 by omega)
  have e1 := Int.emod_lt_of_pos n (show 0 < m by omega)
  have hX := mod_twice n m h1
  have hw0 : IntKind.i64.wrap (n.tmod m) = n.tmod m := IntWalk.i64_in _ (by omega)
  have hw1 : IntKind.i64.wrap (n.tmod m + m) = n.tmod m + m := IntWalk.i64_in _ (by omega)
  have hw2 : IntKind.i64.wrap (n % m) = n % m := IntWalk.i64_in _ (by omega)
  have hm0 : ¬ m = 0 := by omega
  go_enter Try.func20, Try.ntmps20
  go_wp2
  go_ret
  exact ⟨rfl, rfl⟩
def atI (l : List Int) (k : Int) : Int := if k < l.length then (l[k.toNat]?).getD 0 else 0
theorem at_any (p : Option Addr) (cap : Nat) (l : List Int) (k : Nat) (w : World) (hl : l.length ≤ maxLen) (ho : IntsAt w p l) (hk : k < 9223372036854775807) :
    Calls Try.prog 43 #[.slice p l.length cap, .int .i64 (k : Int)] w fun e w' => e = .returned (.int .i64 ((l[k]?).getD 0)) ∧ w = w' := by
  unfold maxLen at hl
  by_cases h : k < l.length
  · obtain ⟨n, hn⟩ := at_some l k h
    obtain ⟨B, off, rfl, hB, c0, _⟩ := ho k n hn
    have hX : (l[k]?).getD 0 = n := by rw [hn]; rfl
    rw [hX]
    clear hX hn ho
    go_enter Try.func43, Try.ntmps43
    go_wp2
    go_ret
    exact ⟨rfl, rfl⟩
  · have hX : (l[k]?).getD 0 = 0 := by rw [List.getElem?_eq_none (by omega)]; rfl
    rw [hX]
    clear hX ho
    go_enter Try.func43, Try.ntmps43
    go_wp2
    go_ret
    exact ⟨rfl, rfl⟩
end Go.Proofs.Ytgdiaaoekkdibaa
