/- The contract of image.Bytes. -/
import Derived.Test.YtgdiaaoekkdibaaI5
import Derived.Test.YtgdiaaoekkdibaaP2
namespace Go.Proofs.Ytgdiaaoekkdibaa
set_option linter.unusedVariables false
set_option linter.unusedSimpArgs false
open Go.RowKit
theorem pair_ret {s t : ByteArray} {n m : Int} (h : s = t) (h' : n = m) : Ending.returned (.tuple #[.string s, .int .i64 n]) = .returned (.tuple #[.string t, .int .i64 m]) := by rw [h, h']
def bytesI (I : Img) : ByteArray := if checkI I = 0 then fileI I else ⟨#[]⟩
theorem flat_le {α : Type} (f : α → List UInt8) (c : Nat) (l : List α) (k : Nat) (h : ∀ x ∈ l, (f x).length = c) : ((l.take k).flatMap f).length ≤ c * l.length := by
  rw [flat_len f c _ (fun x hx => h x (List.mem_of_mem_take hx))]
  exact Nat.mul_le_mul_left _ (by rw [List.length_take]; omega)
theorem byteOf_mod (n : Int) : byteOf (n % 256) = byteOf n := by unfold byteOf; rw [Int.emod_emod_of_dvd n (by decide)]
set_option maxRecDepth 4000 in
set_option maxHeartbeats 8000000 in
theorem bytes_any (p1 : Option Addr) (c1 : Nat) (p2 : Option Addr) (c2 : Nat) (p3 : Option Addr) (c3 : Nat) (I : Img) (w : World) (hI : ImgAt w p1 p2 p3 I) :
    Calls Try.prog 21 #[imgV p1 c1 p2 c2 p3 c3 I] w fun e w' => e = .returned (.tuple #[.string (bytesI I), .int .i64 (checkI I)]) ∧ Below w.heap.size w w' := by
  by_cases hc : checkI I = 0
  rotate_left
  · have hb : bytesI I = ⟨#[]⟩ := if_neg hc
    have hC := check_any p1 c1 p2 c2 p3 c3 I _ (hI.kept (below1 w (Obj.cells #[.slice p1 I.banks.length c1, .int .u16 I.entry, .int .u16 I.vector, .slice p2 I.data.length c2, .slice p3 I.relocs.length c3] 30)))
    rw [hb]
    obtain ⟨X, hX⟩ : ∃ X, checkI I = X := ⟨_, rfl⟩
    rw [hX] at hC hc ⊢
    have HC := Lib.hid hC
    have hne : (X == 0) = false := by simpa using hc
    clear hC hX hb
    show Calls Try.prog 21 #[.agg #[.slice p1 I.banks.length c1, .int .u16 I.entry, .int .u16 I.vector, .slice p2 I.data.length c2, .slice p3 I.relocs.length c3]] w _
    go_enter Try.func21, Try.ntmps21
    go_wp2_with (go_at_call 18; refine HC.out.mono ?_; rintro e w1 ⟨rfl, h1⟩)
    go_ret2
    exact ⟨rfl, below_next (below1 w _) h1⟩
  · obtain ⟨v1, v2, hF, v3, v4, v5, v6, _, _⟩ := check_valid I hc
    have hb : bytesI I = fileI I := if_pos hc
    rw [hb, hc]
    have hC := check_any p1 c1 p2 c2 p3 c3 I _ (hI.kept (below1 w (Obj.cells #[.slice p1 I.banks.length c1, .int .u16 I.entry, .int .u16 I.vector, .slice p2 I.data.length c2, .slice p3 I.relocs.length c3] 30)))
    rw [hc] at hC
    have HC := Lib.hid hC
    have HI := Lib.hid (hI.kept (below1 w (Obj.cells #[.slice p1 I.banks.length c1, .int .u16 I.entry, .int .u16 I.vector, .slice p2 I.data.length c2, .slice p3 I.relocs.length c3] 30)))
    obtain ⟨⟨en0, en1⟩, ⟨ve0, ve1⟩⟩ := And.intro hI.entry hI.vector
    have HF := Lib.hid hF
    have HR : Hid (fileI I = bytesOf (bodyL I ++ putL [sumI (bytesOf (bodyL I)) (bodyL I).length])) := rfl
    have HBL := Lib.hid (bodyL_len I hF)
    have hB1 := below1 w (Obj.cells #[.slice p1 I.banks.length c1, .int .u16 I.entry, .int .u16 I.vector, .slice p2 I.data.length c2, .slice p3 I.relocs.length c3] 30)
    have HB1 := Lib.hid hB1
    clear hC hb hc hF hI hB1
    have k0 : IntKind.u16.wrap (I.banks.length : Int) = I.banks.length := wrap_in _ (by omega) (by omega)
    have k1 : IntKind.u16.wrap (I.data.length : Int) = I.data.length := wrap_in _ (by omega) (by omega)
    have k2 : IntKind.u16.wrap (I.relocs.length : Int) = I.relocs.length := wrap_in _ (by omega) (by omega)
    have HH : Hid (headL I = [] ++ [86, 69, 76, 77] ++ putL [(I.banks.length : Int), I.entry, I.vector, (I.data.length : Int), (I.relocs.length : Int)]) := by
      show _ = _
      unfold headL
      rw [Int.emod_eq_of_lt (by omega) (by omega), Int.emod_eq_of_lt (by omega) (by omega), Int.emod_eq_of_lt (by omega) (by omega)]
      rfl
    have y0 : (w.alloc (Obj.cells #[.slice p1 I.banks.length c1, .int .u16 I.entry, .int .u16 I.vector, .slice p2 I.data.length c2, .slice p3 I.relocs.length c3] 30)).cell? ⟨w.heap.size, 0, none⟩ = some (.slice p1 I.banks.length c1) := by simp
    have y1 : (w.alloc (Obj.cells #[.slice p1 I.banks.length c1, .int .u16 I.entry, .int .u16 I.vector, .slice p2 I.data.length c2, .slice p3 I.relocs.length c3] 30)).cell? ⟨w.heap.size, 1, none⟩ = some (.int .u16 I.entry) := by simp
    have y2 : (w.alloc (Obj.cells #[.slice p1 I.banks.length c1, .int .u16 I.entry, .int .u16 I.vector, .slice p2 I.data.length c2, .slice p3 I.relocs.length c3] 30)).cell? ⟨w.heap.size, 2, none⟩ = some (.int .u16 I.vector) := by simp
    have y3 : (w.alloc (Obj.cells #[.slice p1 I.banks.length c1, .int .u16 I.entry, .int .u16 I.vector, .slice p2 I.data.length c2, .slice p3 I.relocs.length c3] 30)).cell? ⟨w.heap.size, 3, none⟩ = some (.slice p2 I.data.length c2) := by simp
    have y4 : (w.alloc (Obj.cells #[.slice p1 I.banks.length c1, .int .u16 I.entry, .int .u16 I.vector, .slice p2 I.data.length c2, .slice p3 I.relocs.length c3] 30)).cell? ⟨w.heap.size, 4, none⟩ = some (.slice p3 I.relocs.length c3) := by simp
    have hBx : w.heap.size < (w.alloc (Obj.cells #[.slice p1 I.banks.length c1, .int .u16 I.entry, .int .u16 I.vector, .slice p2 I.data.length c2, .slice p3 I.relocs.length c3] 30)).heap.size := by simp
    show Calls Try.prog 21 #[.agg #[.slice p1 I.banks.length c1, .int .u16 I.entry, .int .u16 I.vector, .slice p2 I.data.length c2, .slice p3 I.relocs.length c3]] w _
    go_enter Try.func21, Try.ntmps21
    go_wp2_with (go_at_call 18; refine HC.out.mono ?_; rintro e w1 ⟨rfl, h1⟩)
    clear HC
    have z0 := (h1.cell (p := ⟨w.heap.size, 0, none⟩) hBx).trans y0
    have z1 := (h1.cell (p := ⟨w.heap.size, 1, none⟩) hBx).trans y1
    have z2 := (h1.cell (p := ⟨w.heap.size, 2, none⟩) hBx).trans y2
    have z3 := (h1.cell (p := ⟨w.heap.size, 3, none⟩) hBx).trans y3
    have z4 := (h1.cell (p := ⟨w.heap.size, 4, none⟩) hBx).trans y4
    have HI1 := Lib.hid (HI.out.kept h1)
    have HB2 := Lib.hid (below_next HB1.out h1)
    have hlt1 : w.heap.size < w1.heap.size := by have := h1.size; omega
    clear y0 y1 y2 y3 y4 hBx HI HB1 h1
    go_wp2_with (first
      | (go_at_call 51; refine (writeS_any w1.heap.size [] _ _ (bld_new w1) (by decide)).mono ?_; rintro e w2 ⟨rfl, hb2, s2⟩; have B2 := (below1 w1 (Obj.cells #[Value.pointer none, Value.slice none 0 0] 87)).trans s2.below; have x0 := (B2.cell (p := ⟨w.heap.size, 0, none⟩) hlt1).trans z0; have x1 := (B2.cell (p := ⟨w.heap.size, 1, none⟩) hlt1).trans z1; have x2 := (B2.cell (p := ⟨w.heap.size, 2, none⟩) hlt1).trans z2; have x3 := (B2.cell (p := ⟨w.heap.size, 3, none⟩) hlt1).trans z3; have x4 := (B2.cell (p := ⟨w.heap.size, 4, none⟩) hlt1).trans z4)
      | (go_at_call 50; refine (puts_any w1.heap.size w2.heap.size _ _ [(I.banks.length : Int), I.entry, I.vector, (I.data.length : Int), (I.relocs.length : Int)] _ (hb2.alloc _) (alloc_at _ _) (by have := hb2.lt; omega) (by intro n hn; simp at hn; unfold OkU16; rcases hn with h | h | h | h | h <;> omega) (by simp)).mono ?_; rintro e w3 ⟨rfl, hb3, s3⟩; have B3 := (B2.alloc B2.size (Obj.cells #[Value.int IntKind.u16 I.banks.length, Value.int IntKind.u16 I.entry, Value.int IntKind.u16 I.vector, Value.int IntKind.u16 I.data.length, Value.int IntKind.u16 I.relocs.length] 26)).trans s3.below; have u0 := (B3.cell (p := ⟨w.heap.size, 0, none⟩) hlt1).trans z0; have u3 := (B3.cell (p := ⟨w.heap.size, 3, none⟩) hlt1).trans z3; have u4 := (B3.cell (p := ⟨w.heap.size, 4, none⟩) hlt1).trans z4))
    rw [← HH.out] at hb3
    have HB0 := Lib.hid hb3
    have HBe0 := Lib.hid B3
    have zz0 := z0
    have zz3 := z3
    have zz4 := z4
    clear HH hb3 B3 B2 s2 s3 hb2 z0 z1 z2 z3 z4 x0 x1 x2 x3 x4
    go_loopw [42] (fun i wr => ∃ k : Nat, k ≤ I.data.length ∧ i = .int .i64 k ∧ Bld w1.heap.size (headL I ++ (I.data.take k).flatMap objB) wr ∧ Below w1.heap.size w1 wr) (fun i _ => I.data.length - (intOf i).toNat)
    case atStart => exact ⟨0, Nat.zero_le _, rfl, by simpa using HB0.out, HBe0.out⟩
    case round =>
      obtain ⟨k, hk, rfl, hb, hB⟩ := hrel
      have HB := Lib.hid hb
      have HBe := Lib.hid hB
      have z0 := (hB.cell (p := ⟨w.heap.size, 0, none⟩) hlt1).trans zz0
      have z3 := (hB.cell (p := ⟨w.heap.size, 3, none⟩) hlt1).trans zz3
      have z4 := (hB.cell (p := ⟨w.heap.size, 4, none⟩) hlt1).trans zz4
      have hfl := flat_le objB 5 I.data k (fun x _ => rfl)
      by_cases hlt : k < I.data.length
      · obtain ⟨o, hok⟩ := at_some I.data k hlt
        obtain ⟨B, rfl, hBs, c0, c1, c2, ⟨o0, o1⟩, ⟨o2, o3⟩, ⟨o4, o5⟩⟩ := (HI1.out.kept hB).data k o hok
        have HK := Lib.hid hok
        clear hok hb hB
        have hw8 : IntKind.u8.wrap o.bank = o.bank % 256 := IntKind.wrap_u8 _
        have hne : wr.heap.size ≠ w1.heap.size := by have := HB.out.lt; omega
        go_wp2_with (first
          | (go_at_call 53
             refine (writeB_any w1.heap.size _ (o.bank % 256) _ (HB.out.alloc _) (by omega) (by omega) (by simp only [List.length_append, headL_len]; omega)).mono ?_
             rintro e wA ⟨rfl, hA, sA⟩
             have rw1 := sA.row (alloc_at wr (Obj.cells #[Value.int IntKind.i64 o.bank, Value.int IntKind.u16 o.addr, Value.int IntKind.u16 o.size] 39)) hne (by decide)
             have d1 : wA.cell? ⟨wr.heap.size, 1, none⟩ = some (.int .u16 o.addr) := by rw [Lib.cell_of_heap rw1]; rfl
             have d2 : wA.cell? ⟨wr.heap.size, 2, none⟩ = some (.int .u16 o.size) := by rw [Lib.cell_of_heap rw1]; rfl
             have BA := (HBe.out.alloc HBe.out.size (Obj.cells #[Value.int IntKind.i64 o.bank, Value.int IntKind.u16 o.addr, Value.int IntKind.u16 o.size] 39)).trans sA.below)
          | (go_at_call 50
             refine (puts_any w1.heap.size wA.heap.size _ _ [o.addr, o.size] _ (hA.alloc _) (alloc_at _ _) (by have := hA.lt; omega) (by intro n hn; simp at hn; unfold OkU16; rcases hn with h | h <;> omega) (by simp only [List.length_append, headL_len, List.length_cons, List.length_nil]; omega)).mono ?_
             rintro e wC ⟨rfl, hC, sC⟩
             have BC := (BA.alloc BA.size (Obj.cells #[Value.int IntKind.u16 o.addr, Value.int IntKind.u16 o.size] 26)).trans sC.below))
        go_roundw
        case rel =>
          refine ⟨k + 1, by omega, by go_num, ?_, BC⟩
          have e : headL I ++ (I.data.take (k + 1)).flatMap objB = headL I ++ (I.data.take k).flatMap objB ++ [byteOf (o.bank % 256)] ++ putL [o.addr, o.size] := by
            rw [flat_take objB I.data k o HK.out, byteOf_mod]
            simp [objB]
          rw [e]
          exact hC
        case measure => simp [intOf]; omega
      · obtain rfl : k = I.data.length := by omega
        clear hlt
        rw [List.take_length] at hb hfl
        have HB0 := Lib.hid hb
        have HBe0 := Lib.hid hB
        clear HB HBe hb hB
        go_wp2_with fail
        have hf1 := hfl
        go_loopw [61] (fun i wr => ∃ k : Nat, k ≤ I.relocs.length ∧ i = .int .i64 k ∧ Bld w1.heap.size (headL I ++ I.data.flatMap objB ++ (I.relocs.take k).flatMap relB) wr ∧ Below w1.heap.size w1 wr) (fun i _ => I.relocs.length - (intOf i).toNat)
        case atStart => exact ⟨0, Nat.zero_le _, rfl, by simpa using HB0.out, HBe0.out⟩
        case round =>
          obtain ⟨k, hk, rfl, hb, hB⟩ := hrel
          have HB := Lib.hid hb
          have HBe := Lib.hid hB
          have z0 := (hB.cell (p := ⟨w.heap.size, 0, none⟩) hlt1).trans zz0
          have z3 := (hB.cell (p := ⟨w.heap.size, 3, none⟩) hlt1).trans zz3
          have z4 := (hB.cell (p := ⟨w.heap.size, 4, none⟩) hlt1).trans zz4
          have hfl := flat_le relB 3 I.relocs k (fun x _ => rfl)
          by_cases hlt : k < I.relocs.length
          · obtain ⟨o, hok⟩ := at_some I.relocs k hlt
            obtain ⟨B, rfl, hBs, c0, c1, ⟨o0, o1⟩, ⟨o2, o3⟩⟩ := (HI1.out.kept hB).relocs k o hok
            have HK := Lib.hid hok
            clear hok hb hB
            have hw8 : IntKind.u8.wrap o.bank = o.bank % 256 := IntKind.wrap_u8 _
            have hne : wr.heap.size ≠ w1.heap.size := by have := HB.out.lt; omega
            go_wp2_with (first
              | (go_at_call 53
                 refine (writeB_any w1.heap.size _ (o.bank % 256) _ (HB.out.alloc _) (by omega) (by omega) (by simp only [List.length_append, headL_len]; omega)).mono ?_
                 rintro e wA ⟨rfl, hA, sA⟩
                 have rw1 := sA.row (alloc_at wr (Obj.cells #[Value.int IntKind.i64 o.bank, Value.int IntKind.u16 o.off] 41)) hne (by decide)
                 have d1 : wA.cell? ⟨wr.heap.size, 1, none⟩ = some (.int .u16 o.off) := by rw [Lib.cell_of_heap rw1]; rfl
                 have BA := (HBe.out.alloc HBe.out.size (Obj.cells #[Value.int IntKind.i64 o.bank, Value.int IntKind.u16 o.off] 41)).trans sA.below)
              | (go_at_call 50
                 refine (puts_any w1.heap.size wA.heap.size _ _ [o.off] _ (hA.alloc _) (alloc_at _ _) (by have := hA.lt; omega) (by intro n hn; simp at hn; unfold OkU16; omega) (by simp only [List.length_append, headL_len, List.length_cons, List.length_nil]; omega)).mono ?_
                 rintro e wC ⟨rfl, hC, sC⟩
                 have BC := (BA.alloc BA.size (Obj.cells #[Value.int IntKind.u16 o.off] 26)).trans sC.below))
            go_roundw
            case rel =>
              refine ⟨k + 1, by omega, by go_num, ?_, BC⟩
              have e : headL I ++ I.data.flatMap objB ++ (I.relocs.take (k + 1)).flatMap relB = headL I ++ I.data.flatMap objB ++ (I.relocs.take k).flatMap relB ++ [byteOf (o.bank % 256)] ++ putL [o.off] := by
                rw [flat_take relB I.relocs k o HK.out, byteOf_mod]
                simp [relB]
              rw [e]
              exact hC
            case measure => simp [intOf]; omega
          · obtain rfl : k = I.relocs.length := by omega
            clear hlt
            rw [List.take_length] at hb hfl
            have HB0 := Lib.hid hb
            have HBe0 := Lib.hid hB
            clear HB HBe hb hB
            go_wp2_with fail
            have hf2 := hfl
            go_loopw [78] (fun i wr => ∃ k : Nat, k ≤ I.banks.length ∧ i = .int .i64 k ∧ Bld w1.heap.size (headL I ++ I.data.flatMap objB ++ I.relocs.flatMap relB ++ (I.banks.take k).flatMap strB) wr ∧ Below w1.heap.size w1 wr) (fun i _ => I.banks.length - (intOf i).toNat)
            case atStart => exact ⟨0, Nat.zero_le _, rfl, by simpa using HB0.out, HBe0.out⟩
            case round =>
              obtain ⟨k, hk, rfl, hb, hB⟩ := hrel
              have HB := Lib.hid hb
              have HBe := Lib.hid hB
              have z0 := (hB.cell (p := ⟨w.heap.size, 0, none⟩) hlt1).trans zz0
              have z3 := (hB.cell (p := ⟨w.heap.size, 3, none⟩) hlt1).trans zz3
              have z4 := (hB.cell (p := ⟨w.heap.size, 4, none⟩) hlt1).trans zz4
              have hfl := flat_le strB 4096 I.banks k (fun x hx => HF.out x hx)
              by_cases hlt : k < I.banks.length
              · obtain ⟨o, hok⟩ := at_some I.banks k hlt
                obtain ⟨B, rfl, hBs, c0, hos⟩ := (HI1.out.kept hB).banks k o hok
                have HK := Lib.hid hok
                clear hok hb hB
                have h4 := HF.out o (List.mem_of_getElem? HK.out)
                go_wp2_with (go_at_call 51; refine (writeS_any w1.heap.size _ o _ HB.out (by simp only [List.length_append, headL_len]; omega)).mono ?_; rintro e wA ⟨rfl, hA, sA⟩)
                go_roundw
                case rel =>
                  refine ⟨k + 1, by omega, by go_num, ?_, HBe.out.trans sA.below⟩
                  rw [List.append_assoc, show o.data.toList = strB o from rfl, ← flat_take strB I.banks k o HK.out] at hA
                  exact hA
                case measure => simp [intOf]; omega
              · obtain rfl : k = I.banks.length := by omega
                clear hlt
                rw [List.take_length] at hb hfl
                have HB0 := Lib.hid hb
                have HBe0 := Lib.hid hB
                clear HB HBe hb hB
                go_wp2_with fail
                have hbody : Bld w1.heap.size (bodyL I) wr := HB0.out
                have Hbody := Lib.hid hbody
                have hsz : (bodyL I).length ≤ 400000 := by rw [HBL.out]; omega
                obtain ⟨S, hS⟩ : ∃ S, sumI (bytesOf (bodyL I)) (bodyL I).length = S := ⟨_, rfl⟩
                have hS0 := sumI_bd (bytesOf (bodyL I)) (bodyL I).length
                rw [hS] at hS0
                obtain ⟨S0, S1⟩ := hS0
                have hsum : ∀ w, Calls Try.prog 54 #[.string ⟨(bodyL I).toArray⟩] w fun e w' => e = .returned (.int .u16 S) ∧ Below w.heap.size w w' := fun w => by
                  rw [← hS]; exact sum_any (bytesOf (bodyL I)) w (by unfold maxLen; rw [bytesOf_size]; omega)
                have Hsum := Lib.hid hsum
                have HS := Lib.hid hS
                clear hsum hS hbody HB0
                go_wp2_with (first
                  | (go_at_call 55; refine (bstring_any w1.heap.size (bodyL I) wr Hbody.out).mono ?_; rintro e wS ⟨rfl, bS, sS⟩)
                  | (go_at_call 54; refine (Hsum.out _).mono ?_; rintro e wT ⟨rfl, hT⟩)
                  | (go_at_call 50; refine (puts_any w1.heap.size wT.heap.size _ (bodyL I) [S] _ ((bS.keptBelow hT).alloc _) (alloc_at _ _) (by have := (bS.keptBelow hT).lt; omega) (by intro n hn; simp at hn; unfold OkU16; omega) (by simp only [List.length_cons, List.length_nil]; omega)).mono ?_; rintro e wU ⟨rfl, bU, sU⟩)
                  | (go_at_call 55; refine (bstring_any w1.heap.size _ wU bU).mono ?_; rintro e wV ⟨rfl, bV, sV⟩))
                go_ret2
                have B4 := (HBe0.out.trans sS.below).trans (hT.mono (Nat.le_of_lt bS.lt))
                have B5 := ((B4.alloc B4.size (Obj.cells #[Value.int IntKind.u16 S] 26)).trans sU.below).trans sV.below
                exact ⟨pair_ret (by rw [HR.out, HS.out]; rfl) rfl, below_next HB2.out B5⟩
end Go.Proofs.Ytgdiaaoekkdibaa
