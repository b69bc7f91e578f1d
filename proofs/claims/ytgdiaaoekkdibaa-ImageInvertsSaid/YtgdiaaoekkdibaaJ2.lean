/- The contract of the reference's Bytes. -/
import Derived.Test.YtgdiaaoekkdibaaJ1
import Derived.Test.YtgdiaaoekkdibaaI7
import Derived.Test.YtgdiaaoekkdibaaI9
namespace Go.Proofs.Ytgdiaaoekkdibaa
set_option linter.unusedVariables false
set_option linter.unusedSimpArgs false
open Go.RowKit
set_option maxHeartbeats 2000000 in
theorem rbytes_any (p1 : Option Addr) (c1 : Nat) (p2 : Option Addr) (c2 : Nat) (p3 : Option Addr) (c3 : Nat) (I : Img) (w : World) (hI : ImgAt w p1 p2 p3 I) :
    Calls Try.prog 22 #[imgV p1 c1 p2 c2 p3 c3 I] w fun e w' => e = .returned (.tuple #[.string (bytesI I), .int .i64 (checkI I)]) ∧ Below w.heap.size w w' := by
  have hI1 := hI.kept (below1 w (Obj.cells #[.slice p1 I.banks.length c1, .int .u16 I.entry, .int .u16 I.vector, .slice p2 I.data.length c2, .slice p3 I.relocs.length c3] 30))
  have hC := rcheck_any p1 c1 p2 c2 p3 c3 I _ hI1
  by_cases hc : checkI I = 0
  rotate_left
  · have hb : bytesI I = ⟨#[]⟩ := if_neg hc
    rw [hb]
    obtain ⟨X, hX⟩ : ∃ X, checkI I = X := ⟨_, rfl⟩
    rw [hX] at hC hc ⊢
    have HC := Lib.hid hC
    have hne : (X == 0) = false := by simpa using hc
    clear hC hX hb
    show Calls Try.prog 22 #[.agg #[.slice p1 I.banks.length c1, .int .u16 I.entry, .int .u16 I.vector, .slice p2 I.data.length c2, .slice p3 I.relocs.length c3]] w _
    go_enter Try.func22, Try.ntmps22
    go_wp2_with (go_at_call 19; refine HC.out.mono ?_; rintro e w1 ⟨rfl, h1⟩)
    go_ret2
    exact ⟨rfl, below_next (below1 w _) h1⟩
  · obtain ⟨v1, v2, hF, v3, v4, v5, v6, _, _⟩ := check_valid I hc
    have hb : bytesI I = fileI I := if_pos hc
    rw [hb, hc]
    rw [hc] at hC
    have HC := Lib.hid hC
    have hln : (bodyL I).length ≤ 1099511627776 := by rw [bodyL_len I hF]; omega
    have HL := Lib.hid hln
    have HI1 := Lib.hid hI1
    have hBx : w.heap.size < (w.alloc (Obj.cells #[.slice p1 I.banks.length c1, .int .u16 I.entry, .int .u16 I.vector, .slice p2 I.data.length c2, .slice p3 I.relocs.length c3] 30)).heap.size := by simp
    have y0 : (w.alloc (Obj.cells #[.slice p1 I.banks.length c1, .int .u16 I.entry, .int .u16 I.vector, .slice p2 I.data.length c2, .slice p3 I.relocs.length c3] 30)).cell? ⟨w.heap.size, 0, none⟩ = some (.slice p1 I.banks.length c1) := by simp
    have y1 : (w.alloc (Obj.cells #[.slice p1 I.banks.length c1, .int .u16 I.entry, .int .u16 I.vector, .slice p2 I.data.length c2, .slice p3 I.relocs.length c3] 30)).cell? ⟨w.heap.size, 1, none⟩ = some (.int .u16 I.entry) := by simp
    have y2 : (w.alloc (Obj.cells #[.slice p1 I.banks.length c1, .int .u16 I.entry, .int .u16 I.vector, .slice p2 I.data.length c2, .slice p3 I.relocs.length c3] 30)).cell? ⟨w.heap.size, 2, none⟩ = some (.int .u16 I.vector) := by simp
    have y3 : (w.alloc (Obj.cells #[.slice p1 I.banks.length c1, .int .u16 I.entry, .int .u16 I.vector, .slice p2 I.data.length c2, .slice p3 I.relocs.length c3] 30)).cell? ⟨w.heap.size, 3, none⟩ = some (.slice p2 I.data.length c2) := by simp
    have y4 : (w.alloc (Obj.cells #[.slice p1 I.banks.length c1, .int .u16 I.entry, .int .u16 I.vector, .slice p2 I.data.length c2, .slice p3 I.relocs.length c3] 30)).cell? ⟨w.heap.size, 4, none⟩ = some (.slice p3 I.relocs.length c3) := by simp
    clear hC hb hc hF hI hI1 hln
    show Calls Try.prog 22 #[.agg #[.slice p1 I.banks.length c1, .int .u16 I.entry, .int .u16 I.vector, .slice p2 I.data.length c2, .slice p3 I.relocs.length c3]] w _
    go_enter Try.func22, Try.ntmps22
    go_wp2_with (first
      | (go_at_call 19; refine HC.out.mono ?_; rintro e w1 ⟨rfl, h1⟩; have z0 := (h1.cell (p := ⟨w.heap.size, 0, none⟩) hBx).trans y0; have z1 := (h1.cell (p := ⟨w.heap.size, 1, none⟩) hBx).trans y1; have z2 := (h1.cell (p := ⟨w.heap.size, 2, none⟩) hBx).trans y2; have z3 := (h1.cell (p := ⟨w.heap.size, 3, none⟩) hBx).trans y3; have z4 := (h1.cell (p := ⟨w.heap.size, 4, none⟩) hBx).trans y4)
      | (go_at_call 23; refine (rfile_any p1 c1 p2 c2 p3 c3 I _ (HI1.out.kept h1) HL.out).mono ?_; rintro e w2 ⟨rfl, h2⟩))
    go_ret2
    exact ⟨rfl, below_next (below1 w _) (below_next h1 h2)⟩
end Go.Proofs.Ytgdiaaoekkdibaa
