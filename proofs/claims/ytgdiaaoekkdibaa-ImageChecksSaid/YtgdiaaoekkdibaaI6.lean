/- The contract of image.Check. -/
import Derived.Test.YtgdiaaoekkdibaaI5
namespace Go.Proofs.Ytgdiaaoekkdibaa
set_option linter.unusedVariables false
open Go.RowKit
def firstBank : List ByteArray → Nat → Int
  | [], _ => -1
  | s :: l, n => if s.size = 4096 then firstBank l (n + 1) else n
theorem firstBank_hit (l : List ByteArray) (k : Nat) (s : ByteArray) (h : l[k]? = some s) (hh : ¬ s.size = 4096) : firstBank (l.drop k) k = k := by
  rw [drop_at l k s h]; simp [firstBank, hh]
theorem firstBank_miss (l : List ByteArray) (k : Nat) (s : ByteArray) (h : l[k]? = some s) (hh : s.size = 4096) : firstBank (l.drop k) k = firstBank (l.drop (k + 1)) (k + 1) := by
  rw [drop_at l k s h]; simp [firstBank, hh]
theorem firstBank_end (l : List ByteArray) : firstBank (l.drop l.length) l.length = -1 := by simp [firstBank]
theorem firstBank_full (l : List ByteArray) : ∀ n, Full l → firstBank l n = -1 := by
  induction l with
  | nil => intro n _; rfl
  | cons s l ih =>
    intro n h
    unfold firstBank
    rw [if_pos (h s (List.mem_cons_self ..))]
    exact ih _ (fun x hx => h x (List.mem_cons_of_mem _ hx))
theorem firstBank_not (l : List ByteArray) : ∀ n, ¬ Full l → 0 ≤ firstBank l n := by
  induction l with
  | nil => intro n h; exact absurd (fun x hx => by cases hx) h
  | cons s l ih =>
    intro n h
    unfold firstBank
    by_cases hs : s.size = 4096
    · rw [if_pos hs]
      exact ih _ (fun hl => h (fun x hx => by rcases List.mem_cons.1 hx with rfl | hx; exact hs; exact hl x hx))
    · rw [if_neg hs]; omega
theorem off_any (s : ByteArray) (b : Bool) (w : World) (hs : s.size ≤ maxLen) (hb : (s.size != 4096) = b) : Calls Try.prog 44 #[.string s] w fun e w' => e = .returned (.bool b) ∧ w = w' := by
  unfold maxLen at hs
  by_cases h : s.size = 4096
  · obtain rfl : b = false := by simp [← hb, h]
    clear hb
    go_enter Try.func44, Try.ntmps44
    go_wp2
    go_ret
    exact ⟨by simp, rfl⟩
  · obtain rfl : b = true := by simp [← hb, h]
    clear hb
    go_enter Try.func44, Try.ntmps44
    go_wp2
    go_ret
    refine ⟨?_, rfl⟩
    have : ¬ ((s.size : Int) = 4096) := by omega
    simp [this]
theorem index_any (p : Option Addr) (cap : Nat) (l : List ByteArray) (w : World) (hl : l.length ≤ maxLen) (ho : StrsAt w p l) :
    Calls Try.prog 74 #[.slice p l.length cap, .func (.func 44) #[] #[]] w fun e w' => e = .returned (.int .i64 (firstBank l 0)) ∧ w = w' := by
  unfold maxLen at hl
  have HO := Lib.hid ho
  clear ho
  go_enter Try.func74, Try.ntmps74
  go_wp2
  go_loop [8] (fun i => ∃ k : Nat, k ≤ l.length ∧ i = .int .i64 k ∧ firstBank l 0 = firstBank (l.drop k) k) (fun i => l.length - (intOf i).toNat)
  case atStart => exact ⟨0, Nat.zero_le _, rfl, rfl⟩
  case round =>
    obtain ⟨k, hk, rfl, hf⟩ := hrel
    have HF := Lib.hid hf
    clear hf
    by_cases hlt : k < l.length
    · obtain ⟨o, hok⟩ := at_some l k hlt
      obtain ⟨B, rfl, hBs, c0, hs⟩ := HO.out k o hok
      have HK := Lib.hid hok
      clear hok HO
      by_cases h4 : o.size = 4096
      · have HM := Lib.hid (firstBank_miss l k o HK.out h4)
        have hb : (o.size != 4096) = false := by simp [h4]
        go_wp2_with (go_at_call 44; refine (off_any _ _ _ hs hb).mono ?_; rintro e w' ⟨rfl, rfl⟩)
        go_round
        case rel => exact ⟨k + 1, by omega, by go_num, by rw [HF.out, HM.out]⟩
        case measure => simp [intOf]; omega
      · have HH := Lib.hid (firstBank_hit l k o HK.out h4)
        have hb : (o.size != 4096) = true := by simp [h4]
        go_wp2_with (go_at_call 44; refine (off_any _ _ _ hs hb).mono ?_; rintro e w' ⟨rfl, rfl⟩)
        go_ret
        exact ⟨by rw [HF.out, HH.out]; rfl, rfl⟩
    · obtain rfl : k = l.length := by omega
      go_wp2
      go_ret
      exact ⟨by rw [HF.out, firstBank_end]; rfl, rfl⟩
theorem contains_any (p : Option Addr) (cap : Nat) (l : List ByteArray) (b : Bool) (w : World) (hl : l.length ≤ maxLen) (ho : StrsAt w p l) (hb : decide (0 ≤ firstBank l 0) = b) :
    Calls Try.prog 45 #[.slice p l.length cap, .func (.func 44) #[] #[]] w fun e w' => e = .returned (.bool b) ∧ w = w' := by
  go_enter Try.func45, Try.ntmps45
  go_wp2_with (go_at_call 74; refine (index_any _ _ _ _ hl ho).mono ?_; rintro e w' ⟨rfl, rfl⟩)
  go_ret
  exact ⟨rfl, rfl⟩
theorem check22 (I : Img) (h : I.banks.length < 1 ∨ 64 < I.banks.length ∨ ¬ Full I.banks) : checkI I = 22 := if_pos h
theorem check2 (I : Img) (h : ¬ (I.banks.length < 1 ∨ 64 < I.banks.length ∨ ¬ Full I.banks)) (h2 : 512 < I.data.length ∨ 20000 < I.relocs.length) : checkI I = 2 := (if_neg h).trans (if_pos h2)
theorem check37 (I : Img) (h : ¬ (I.banks.length < 1 ∨ 64 < I.banks.length ∨ ¬ Full I.banks)) (h2 : ¬ (512 < I.data.length ∨ 20000 < I.relocs.length)) (h3 : 4096 ≤ I.entry ∨ 4096 ≤ I.vector ∨ 0 ≤ firstObj I.banks.length none I.data 0 ∨ 0 ≤ firstRel I.banks I.data none I.relocs 0) : checkI I = 37 := (if_neg h).trans ((if_neg h2).trans (if_pos h3))
theorem check0 (I : Img) (h : ¬ (I.banks.length < 1 ∨ 64 < I.banks.length ∨ ¬ Full I.banks)) (h2 : ¬ (512 < I.data.length ∨ 20000 < I.relocs.length)) (h3 : ¬ (4096 ≤ I.entry ∨ 4096 ≤ I.vector ∨ 0 ≤ firstObj I.banks.length none I.data 0 ∨ 0 ≤ firstRel I.banks I.data none I.relocs 0)) : checkI I = 0 := (if_neg h).trans ((if_neg h2).trans (if_neg h3))
set_option maxHeartbeats 2000000 in
theorem check_any (p1 : Option Addr) (c1 : Nat) (p2 : Option Addr) (c2 : Nat) (p3 : Option Addr) (c3 : Nat) (I : Img) (w : World) (hI : ImgAt w p1 p2 p3 I) :
    Calls Try.prog 18 #[imgV p1 c1 p2 c2 p3 c3 I] w fun e w' => e = .returned (.int .i64 (checkI I)) ∧ Below w.heap.size w w' := by
  obtain ⟨banks, entry, vector, data, l⟩ := I
  have hI0 := hI
  obtain ⟨h1, h2, h3, hE, hV, l1, l2, l3⟩ := hI
  dsimp only at h1 h2 h3 l1 l2 l3 hE hV
  show Calls Try.prog 18 #[.agg #[.slice p1 banks.length c1, .int .u16 entry, .int .u16 vector, .slice p2 data.length c2, .slice p3 l.length c3]] w fun e w' => e = .returned (.int .i64 (checkI ⟨banks, entry, vector, data, l⟩)) ∧ Below w.heap.size w w'
  obtain ⟨en0, en1⟩ := hE
  obtain ⟨v0, v1⟩ := hV
  have L1 := Lib.hid l1
  have L2 := Lib.hid l2
  unfold maxLen at l1 l2 l3
  have hW1 := below1 w (Obj.cells #[.slice p1 banks.length c1, .int .u16 entry, .int .u16 vector, .slice p2 data.length c2, .slice p3 l.length c3] 30)
  have y0 : (w.alloc (Obj.cells #[.slice p1 banks.length c1, .int .u16 entry, .int .u16 vector, .slice p2 data.length c2, .slice p3 l.length c3] 30)).cell? ⟨w.heap.size, 0, none⟩ = some (.slice p1 banks.length c1) := by simp
  have y1 : (w.alloc (Obj.cells #[.slice p1 banks.length c1, .int .u16 entry, .int .u16 vector, .slice p2 data.length c2, .slice p3 l.length c3] 30)).cell? ⟨w.heap.size, 1, none⟩ = some (.int .u16 entry) := by simp
  have y2 : (w.alloc (Obj.cells #[.slice p1 banks.length c1, .int .u16 entry, .int .u16 vector, .slice p2 data.length c2, .slice p3 l.length c3] 30)).cell? ⟨w.heap.size, 2, none⟩ = some (.int .u16 vector) := by simp
  have y3 : (w.alloc (Obj.cells #[.slice p1 banks.length c1, .int .u16 entry, .int .u16 vector, .slice p2 data.length c2, .slice p3 l.length c3] 30)).cell? ⟨w.heap.size, 3, none⟩ = some (.slice p2 data.length c2) := by simp
  have y4 : (w.alloc (Obj.cells #[.slice p1 banks.length c1, .int .u16 entry, .int .u16 vector, .slice p2 data.length c2, .slice p3 l.length c3] 30)).cell? ⟨w.heap.size, 4, none⟩ = some (.slice p3 l.length c3) := by simp
  have HI := Lib.hid (hI0.kept hW1)
  have hBx : w.heap.size < (w.alloc (Obj.cells #[.slice p1 banks.length c1, .int .u16 entry, .int .u16 vector, .slice p2 data.length c2, .slice p3 l.length c3] 30)).heap.size := by simp
  clear h1 h2 h3 hI0
  by_cases a0 : banks.length < 1
  · have HR := Lib.hid (check22 ⟨banks, entry, vector, data, l⟩ (.inl a0))
    go_enter Try.func18, Try.ntmps18
    go_wp2
    go_ret
    exact ⟨ret_int HR.out.symm, hW1⟩
  by_cases a1 : 64 < banks.length
  · have HR := Lib.hid (check22 ⟨banks, entry, vector, data, l⟩ (.inr (.inl a1)))
    go_enter Try.func18, Try.ntmps18
    go_wp2
    go_ret
    exact ⟨ret_int HR.out.symm, hW1⟩
  by_cases a2 : Full banks
  rotate_left
  · have HR := Lib.hid (check22 ⟨banks, entry, vector, data, l⟩ (.inr (.inr a2)))
    have hb : decide (0 ≤ firstBank banks 0) = true := decide_eq_true (firstBank_not _ _ a2)
    clear a2
    go_enter Try.func18, Try.ntmps18
    go_wp2_with (go_at_call 45; refine (contains_any _ _ _ _ _ L1.out HI.out.banks hb).mono ?_; rintro e w' ⟨rfl, rfl⟩)
    go_ret
    exact ⟨ret_int HR.out.symm, hW1⟩
  have hb : decide (0 ≤ firstBank banks 0) = false := by rw [firstBank_full _ _ a2]; rfl
  have HF := Lib.hid a2
  have HN : Hid (¬ (banks.length < 1 ∨ 64 < banks.length ∨ ¬ Full banks)) := by show ¬ _; intro h; rcases h with h | h | h; exact a0 h; exact a1 h; exact h a2
  clear a2
  by_cases a3 : 512 < data.length
  · have HR := Lib.hid (check2 ⟨banks, entry, vector, data, l⟩ HN.out (.inl a3))
    go_enter Try.func18, Try.ntmps18
    go_wp2_with (go_at_call 45; refine (contains_any _ _ _ _ _ L1.out HI.out.banks hb).mono ?_; rintro e w' ⟨rfl, rfl⟩)
    go_ret
    exact ⟨ret_int HR.out.symm, hW1⟩
  by_cases a4 : 20000 < l.length
  · have HR := Lib.hid (check2 ⟨banks, entry, vector, data, l⟩ HN.out (.inr a4))
    go_enter Try.func18, Try.ntmps18
    go_wp2_with (go_at_call 45; refine (contains_any _ _ _ _ _ L1.out HI.out.banks hb).mono ?_; rintro e w' ⟨rfl, rfl⟩)
    go_ret
    exact ⟨ret_int HR.out.symm, hW1⟩
  have HN2 : Hid (¬ (512 < data.length ∨ 20000 < l.length)) := by show ¬ _; omega
  by_cases a5 : 4096 ≤ entry
  · have HR := Lib.hid (check37 ⟨banks, entry, vector, data, l⟩ HN.out HN2.out (.inl a5))
    go_enter Try.func18, Try.ntmps18
    go_wp2_with (go_at_call 45; refine (contains_any _ _ _ _ _ L1.out HI.out.banks hb).mono ?_; rintro e w' ⟨rfl, rfl⟩)
    go_ret
    exact ⟨ret_int HR.out.symm, hW1⟩
  by_cases a6 : 4096 ≤ vector
  · have HR := Lib.hid (check37 ⟨banks, entry, vector, data, l⟩ HN.out HN2.out (.inr (.inl a6)))
    go_enter Try.func18, Try.ntmps18
    go_wp2_with (go_at_call 45; refine (contains_any _ _ _ _ _ L1.out HI.out.banks hb).mono ?_; rintro e w' ⟨rfl, rfl⟩)
    go_ret
    exact ⟨ret_int HR.out.symm, hW1⟩
  by_cases a7 : 0 ≤ firstObj banks.length none data 0
  · have HR := Lib.hid (check37 ⟨banks, entry, vector, data, l⟩ HN.out HN2.out (.inr (.inr (.inl a7))))
    go_enter Try.func18, Try.ntmps18
    go_wp2_with (first
      | (go_at_call 45; refine (contains_any _ _ _ _ _ L1.out HI.out.banks hb).mono ?_; rintro e w' ⟨rfl, rfl⟩)
      | (go_at_call 46; refine (badObject_any _ _ _ _ _ L2.out HI.out.data ⟨by omega, by omega⟩ (by omega)).mono ?_; rintro e w2 ⟨rfl, h2⟩))
    go_ret
    exact ⟨ret_int HR.out.symm, below_next hW1 h2⟩
  by_cases a8 : 0 ≤ firstRel banks data none l 0
  · have HR := Lib.hid (check37 ⟨banks, entry, vector, data, l⟩ HN.out HN2.out (.inr (.inr (.inr a8))))
    go_enter Try.func18, Try.ntmps18
    go_wp2_with (first
      | (go_at_call 45; refine (contains_any _ _ _ _ _ L1.out HI.out.banks hb).mono ?_; rintro e w' ⟨rfl, rfl⟩)
      | (go_at_call 46; refine (badObject_any _ _ _ _ _ L2.out HI.out.data ⟨by omega, by omega⟩ (by omega)).mono ?_; rintro e w2 ⟨rfl, h2⟩; have z0 := (h2.cell (p := ⟨w.heap.size, 0, none⟩) hBx).trans y0; have z1 := (h2.cell (p := ⟨w.heap.size, 1, none⟩) hBx).trans y1; have z2 := (h2.cell (p := ⟨w.heap.size, 2, none⟩) hBx).trans y2; have z3 := (h2.cell (p := ⟨w.heap.size, 3, none⟩) hBx).trans y3; have z4 := (h2.cell (p := ⟨w.heap.size, 4, none⟩) hBx).trans y4)
      | (go_at_call 47; refine (badReloc_any p1 c1 p2 c2 p3 c3 ⟨banks, entry, vector, data, l⟩ _ (HI.out.kept h2) HF.out).mono ?_; rintro e w3 ⟨rfl, h3⟩))
    go_ret
    exact ⟨ret_int HR.out.symm, below_next hW1 (below_next h2 h3)⟩
  have HR : Hid (checkI ⟨banks, entry, vector, data, l⟩ = 0) := by
    show _ = _
    refine check0 ⟨banks, entry, vector, data, l⟩ HN.out HN2.out ?_
    intro h; rcases h with h | h | h | h
    · exact a5 h
    · exact a6 h
    · exact a7 h
    · exact a8 h
  go_enter Try.func18, Try.ntmps18
  go_wp2_with (first
      | (go_at_call 45; refine (contains_any _ _ _ _ _ L1.out HI.out.banks hb).mono ?_; rintro e w' ⟨rfl, rfl⟩)
      | (go_at_call 46; refine (badObject_any _ _ _ _ _ L2.out HI.out.data ⟨by omega, by omega⟩ (by omega)).mono ?_; rintro e w2 ⟨rfl, h2⟩; have z0 := (h2.cell (p := ⟨w.heap.size, 0, none⟩) hBx).trans y0; have z1 := (h2.cell (p := ⟨w.heap.size, 1, none⟩) hBx).trans y1; have z2 := (h2.cell (p := ⟨w.heap.size, 2, none⟩) hBx).trans y2; have z3 := (h2.cell (p := ⟨w.heap.size, 3, none⟩) hBx).trans y3; have z4 := (h2.cell (p := ⟨w.heap.size, 4, none⟩) hBx).trans y4)
      | (go_at_call 47; refine (badReloc_any p1 c1 p2 c2 p3 c3 ⟨banks, entry, vector, data, l⟩ _ (HI.out.kept h2) HF.out).mono ?_; rintro e w3 ⟨rfl, h3⟩))
  go_ret
  exact ⟨ret_int HR.out.symm, below_next hW1 (below_next h2 h3)⟩
end Go.Proofs.Ytgdiaaoekkdibaa
