/- The contract of the reference's Check. -/
import Derived.Test.YtgdiaaoekkdibaaI5
import Derived.Test.YtgdiaaoekkdibaaI2
namespace Go.Proofs.Ytgdiaaoekkdibaa
set_option linter.unusedVariables false
open Go.RowKit
theorem orel_end (banks : Int) (l : List ObjI) (X : Int) (h : X = firstObj banks (prevAt l l.length) (l.drop l.length) l.length) : ¬ 0 ≤ X := by
  rw [h, firstObj_end]; omega
set_option maxHeartbeats 4000000 in
theorem rcheck_any (p1 : Option Addr) (c1 : Nat) (p2 : Option Addr) (c2 : Nat) (p3 : Option Addr) (c3 : Nat) (I : Img) (w : World) (hI : ImgAt w p1 p2 p3 I) :
    Calls Try.prog 19 #[imgV p1 c1 p2 c2 p3 c3 I] w fun e w' => e = .returned (.int .i64 (checkI I)) ∧ Below w.heap.size w w' := by
  obtain ⟨banks, entry, vector, data, l⟩ := I
  have hI0 := hI
  obtain ⟨h1, h2, h3, hE, hV, l1, l2, l3⟩ := hI
  dsimp only at h1 h2 h3 l1 l2 l3 hE hV
  show Calls Try.prog 19 #[.agg #[.slice p1 banks.length c1, .int .u16 entry, .int .u16 vector, .slice p2 data.length c2, .slice p3 l.length c3]] w fun e w' => e = .returned (.int .i64 (checkI ⟨banks, entry, vector, data, l⟩)) ∧ Below w.heap.size w w'
  obtain ⟨en0, en1⟩ := hE
  obtain ⟨v0, v1⟩ := hV
  have L1 := Lib.hid l1
  have L2 := Lib.hid l2
  have L3 := Lib.hid l3
  unfold maxLen at l1 l2 l3
  have hW1 := below1 w (Obj.cells #[.slice p1 banks.length c1, .int .u16 entry, .int .u16 vector, .slice p2 data.length c2, .slice p3 l.length c3] 30)
  have y0 : (w.alloc (Obj.cells #[.slice p1 banks.length c1, .int .u16 entry, .int .u16 vector, .slice p2 data.length c2, .slice p3 l.length c3] 30)).cell? ⟨w.heap.size, 0, none⟩ = some (.slice p1 banks.length c1) := by simp
  have y1 : (w.alloc (Obj.cells #[.slice p1 banks.length c1, .int .u16 entry, .int .u16 vector, .slice p2 data.length c2, .slice p3 l.length c3] 30)).cell? ⟨w.heap.size, 1, none⟩ = some (.int .u16 entry) := by simp
  have y2 : (w.alloc (Obj.cells #[.slice p1 banks.length c1, .int .u16 entry, .int .u16 vector, .slice p2 data.length c2, .slice p3 l.length c3] 30)).cell? ⟨w.heap.size, 2, none⟩ = some (.int .u16 vector) := by simp
  have y3 : (w.alloc (Obj.cells #[.slice p1 banks.length c1, .int .u16 entry, .int .u16 vector, .slice p2 data.length c2, .slice p3 l.length c3] 30)).cell? ⟨w.heap.size, 3, none⟩ = some (.slice p2 data.length c2) := by simp
  have y4 : (w.alloc (Obj.cells #[.slice p1 banks.length c1, .int .u16 entry, .int .u16 vector, .slice p2 data.length c2, .slice p3 l.length c3] 30)).cell? ⟨w.heap.size, 4, none⟩ = some (.slice p3 l.length c3) := by simp
  have HI := Lib.hid (hI0.kept hW1)
  have hBx : w.heap.size < (w.alloc (Obj.cells #[.slice p1 banks.length c1, .int .u16 entry, .int .u16 vector, .slice p2 data.length c2, .slice p3 l.length c3] 30)).heap.size := by simp
  have HW1 := Lib.hid hW1
  clear h1 h2 h3 hI0 hW1
  by_cases a0 : banks.length < 1
  · have HR := Lib.hid (check22 ⟨banks, entry, vector, data, l⟩ (.inl a0))
    go_enter Try.func19, Try.ntmps19
    go_wp2
    go_ret
    exact ⟨ret_int HR.out.symm, HW1.out⟩
  by_cases a1 : 64 < banks.length
  · have HR := Lib.hid (check22 ⟨banks, entry, vector, data, l⟩ (.inr (.inl a1)))
    go_enter Try.func19, Try.ntmps19
    go_wp2
    go_ret
    exact ⟨ret_int HR.out.symm, HW1.out⟩
  go_enter Try.func19, Try.ntmps19
  go_wp2_with fail
  obtain ⟨Bx, hBxe⟩ : ∃ Bx, w.heap.size = Bx := ⟨_, rfl⟩
  generalize w.alloc (Obj.cells #[Value.slice p1 banks.length c1, Value.int IntKind.u16 entry, Value.int IntKind.u16 vector, Value.slice p2 data.length c2, Value.slice p3 l.length c3] 30) = W1 at *
  rw [hBxe] at y0 y1 y2 y3 y4 hBx ⊢
  clear hBxe
  go_loop [3] (fun i => ∃ k : Nat, k ≤ banks.length ∧ i = .int .i64 k ∧ firstBank banks 0 = firstBank (banks.drop k) k) (fun i => banks.length - (intOf i).toNat)
  case atStart => exact ⟨0, Nat.zero_le _, rfl, rfl⟩
  case round =>
    obtain ⟨k, hk, rfl, hf⟩ := hrel
    have HF := Lib.hid hf
    clear hf
    by_cases hlt : k < banks.length
    · obtain ⟨o, hok⟩ := at_some banks k hlt
      obtain ⟨B, rfl, hBs, c0, hs⟩ := HI.out.banks k o hok
      have HK := Lib.hid hok
      clear hok
      unfold maxLen at hs
      by_cases h4 : o.size = 4096
      · have HM := Lib.hid (firstBank_miss banks k o HK.out h4)
        have hb : ((o.size : Int) == 4096) = true := by simp [h4]
        go_wp2_with fail
        go_round
        case rel => exact ⟨k + 1, by omega, by go_num, by rw [HF.out, HM.out]⟩
        case measure => simp [intOf]; omega
      · have HR := Lib.hid (check22 ⟨banks, entry, vector, data, l⟩ (.inr (.inr (fun h => h4 (h o (List.mem_of_getElem? HK.out))))))
        have hb : ((o.size : Int) == 4096) = false := by simp; omega
        go_wp2_with fail
        go_ret
        exact ⟨ret_int HR.out.symm, HW1.out⟩
    · obtain rfl : k = banks.length := by omega
      have HFull : Hid (Full banks) := by
        show Full banks
        refine Classical.byContradiction fun hn => ?_
        have := firstBank_not banks 0 hn
        rw [HF.out, firstBank_end] at this
        omega
      clear HF
      have HN : Hid (¬ (banks.length < 1 ∨ 64 < banks.length ∨ ¬ Full banks)) := by show ¬ _; intro h; rcases h with h | h | h; exact a0 h; exact a1 h; exact h HFull.out
      by_cases a3 : 512 < data.length
      · have HR := Lib.hid (check2 ⟨banks, entry, vector, data, l⟩ HN.out (.inl a3))
        go_wp2_with fail
        go_ret
        exact ⟨ret_int HR.out.symm, HW1.out⟩
      by_cases a4 : 20000 < l.length
      · have HR := Lib.hid (check2 ⟨banks, entry, vector, data, l⟩ HN.out (.inr a4))
        go_wp2_with fail
        go_ret
        exact ⟨ret_int HR.out.symm, HW1.out⟩
      have HN2 : Hid (¬ (512 < data.length ∨ 20000 < l.length)) := by show ¬ _; omega
      by_cases a5 : 4096 ≤ entry
      · have HR := Lib.hid (check37 ⟨banks, entry, vector, data, l⟩ HN.out HN2.out (.inl a5))
        go_wp2_with fail
        go_ret
        exact ⟨ret_int HR.out.symm, HW1.out⟩
      by_cases a6 : 4096 ≤ vector
      · have HR := Lib.hid (check37 ⟨banks, entry, vector, data, l⟩ HN.out HN2.out (.inr (.inl a6)))
        go_wp2_with fail
        go_ret
        exact ⟨ret_int HR.out.symm, HW1.out⟩
      go_wp2_with fail
      go_loopw [4] (fun i wr => ∃ k : Nat, k ≤ data.length ∧ i = .int .i64 k ∧ Below W1.heap.size W1 wr ∧ firstObj banks.length none data 0 = firstObj banks.length (prevAt data k) (data.drop k) k) (fun i _ => data.length - (intOf i).toNat)
      case atStart => exact ⟨0, Nat.zero_le _, rfl, Below.refl _ _, rfl⟩
      case round =>
        obtain ⟨k, hk, rfl, hB, hf⟩ := hrel
        have HF := Lib.hid hf
        clear hf
        have z0 := (hB.cell (p := ⟨Bx, 0, none⟩) hBx).trans y0
        have z3 := (hB.cell (p := ⟨Bx, 3, none⟩) hBx).trans y3
        have z4 := (hB.cell (p := ⟨Bx, 4, none⟩) hBx).trans y4
        have hwr := hB.size
        by_cases hlt : k < data.length
        · obtain ⟨o, hok⟩ := at_some data k hlt
          have HK := Lib.hid hok
          clear hok
          have hcall := wrongObject_any p2 c2 data k banks.length wr L2.out (HI.out.kept hB).data ⟨by omega, by omega⟩ o HK.out
          have Hcall := Lib.hid hcall
          clear hcall
          by_cases hh : objWrong banks.length (prevAt data k) o = true
          · have HH := Lib.hid (firstObj_hit banks.length data k o _ HK.out hh)
            have HR := Lib.hid (check37 ⟨banks, entry, vector, data, l⟩ HN.out HN2.out (.inr (.inr (.inl (by rw [HF.out, HH.out]; omega)))))
            go_wp2_with (go_at_call 48; refine Hcall.out.mono ?_; rintro e w2 ⟨rfl, h2⟩)
            go_ret
            exact ⟨ret_int HR.out.symm, below_next HW1.out (below_next hB h2)⟩
          · have hh' : objWrong banks.length (prevAt data k) o = false := by simpa using hh
            have HH := Lib.hid (firstObj_miss banks.length data k o _ HK.out hh')
            go_wp2_with (go_at_call 48; refine Hcall.out.mono ?_; rintro e w2 ⟨rfl, h2⟩)
            go_roundw
            case rel => exact ⟨k + 1, by omega, by go_num, below_next hB h2, by rw [HF.out, HH.out]⟩
            case measure => simp [intOf]; omega
        · obtain rfl : k = data.length := by omega
          have HO : Hid (0 ≤ firstObj banks.length none data 0 → False) := fun h => orel_end _ _ _ HF.out h
          clear HF
          go_wp2_with fail
          have HB := Lib.hid hB
          have HW2 := Lib.hid (below_next HW1.out hB)
          have hBx2 : Bx < wr.heap.size := by omega
          have HI2 := Lib.hid (HI.out.kept hB)
          clear y0 y1 y2 y3 y4 hB HI HW1
          go_loopw [6] (fun i wr' => ∃ k : Nat, k ≤ l.length ∧ i = .int .i64 k ∧ Below wr.heap.size wr wr' ∧ firstRel banks data none l 0 = firstRel banks data (prevAt l k) (l.drop k) k) (fun i _ => l.length - (intOf i).toNat)
          case atStart => exact ⟨0, Nat.zero_le _, rfl, Below.refl _ _, rfl⟩
          case round =>
            obtain ⟨k, hk, rfl, hB, hf⟩ := hrel
            have HF := Lib.hid hf
            clear hf
            have x0 := (hB.cell (p := ⟨Bx, 0, none⟩) hBx2).trans z0
            have x3 := (hB.cell (p := ⟨Bx, 3, none⟩) hBx2).trans z3
            have x4 := (hB.cell (p := ⟨Bx, 4, none⟩) hBx2).trans z4
            by_cases hlt : k < l.length
            · obtain ⟨o, hok⟩ := at_some l k hlt
              have HK := Lib.hid hok
              clear hok
              by_cases hh : relWrong banks data (prevAt l k) o = true
              · have HH := Lib.hid (firstRel_hit banks data l k o _ HK.out hh)
                have HR := Lib.hid (check37 ⟨banks, entry, vector, data, l⟩ HN.out HN2.out (.inr (.inr (.inr (by rw [HF.out, HH.out]; omega)))))
                go_wp2_with (go_at_call 49; refine (wrongReloc_any _ _ _ _ _ _ _ _ _ k _ (HI2.out.kept hB).banks (HI2.out.kept hB).data (HI2.out.kept hB).relocs L1.out L2.out L3.out HFull.out _ HK.out).mono ?_; rintro e w2 ⟨rfl, h2⟩)
                go_ret
                exact ⟨ret_int HR.out.symm, below_next HW2.out (below_next hB h2)⟩
              · have hh' : relWrong banks data (prevAt l k) o = false := by simpa using hh
                have HH := Lib.hid (firstRel_miss banks data l k o _ HK.out hh')
                go_wp2_with (go_at_call 49; refine (wrongReloc_any _ _ _ _ _ _ _ _ _ k _ (HI2.out.kept hB).banks (HI2.out.kept hB).data (HI2.out.kept hB).relocs L1.out L2.out L3.out HFull.out _ HK.out).mono ?_; rintro e w2 ⟨rfl, h2⟩)
                go_roundw
                case rel => exact ⟨k + 1, by omega, by go_num, below_next hB h2, by rw [HF.out, HH.out]⟩
                case measure => simp [intOf]; omega
            · obtain rfl : k = l.length := by omega
              have HR : Hid (checkI ⟨banks, entry, vector, data, l⟩ = 0) := by
                show _ = _
                refine check0 ⟨banks, entry, vector, data, l⟩ HN.out HN2.out ?_
                intro h; rcases h with h | h | h | h
                · dsimp only at h; omega
                · dsimp only at h; omega
                · exact HO.out h
                · dsimp only at h; rw [HF.out, firstRel_end] at h; omega
              go_wp2_with fail
              go_ret
              exact ⟨ret_int HR.out.symm, below_next HW2.out hB⟩
end Go.Proofs.Ytgdiaaoekkdibaa
