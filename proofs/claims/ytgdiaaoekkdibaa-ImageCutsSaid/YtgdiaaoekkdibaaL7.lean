/- ImageCuts: the walk of the law. -/
import Derived.Test.YtgdiaaoekkdibaaD2
import Derived.Test.YtgdiaaoekkdibaaE3
import Derived.Test.YtgdiaaoekkdibaaP6
import Derived.Test.YtgdiaaoekkdibaaJ1
namespace Go.Proofs.Ytgdiaaoekkdibaa
set_option linter.unusedVariables false
set_option linter.unusedSimpArgs false
open Go.RowKit
def CutPost (l : Nat) (W : World) (e : Ending) (w' : World) : Prop := ∃ (p1 : Option Addr) (c1 : Nat) (p2 : Option Addr) (c2 : Nat) (p3 : Option Addr) (c3 : Nat), e = .returned (.tuple #[.agg #[.slice p1 0 c1, .int .u16 0, .int .u16 0, .slice p2 0 c2, .slice p3 0 c3], .int .i64 (l : Int), .int .i64 10]) ∧ Below W.heap.size W w'
theorem read_cut (I : Img) (l : Nat) (W : World) (hc : checkI I = 0) (he : 0 ≤ I.entry) (hv : 0 ≤ I.vector) (hl : l < (fileI I).size) (hz : (fileI I).size ≤ maxLen) : Calls Try.prog 25 #[.string ((fileI I).extract 0 l)] W (CutPost l W) := by
  obtain ⟨hE, hcase⟩ := cut_short I l hc he hv hl
  have hs : ((fileI I).extract 0 l).size ≤ maxLen := by rw [ByteArray.size_extract]; omega
  have fin : ∀ e w', ReadPost ((fileI I).extract 0 l) W e w' → CutPost l W e w' := by
    rintro e w' ⟨p1, c1, p2, c2, p3, c3, he', hI, hB⟩
    have er : readI ((fileI I).extract 0 l) = emptyI := by unfold readI; rw [hE]; rfl
    rw [er, hE] at he'
    exact ⟨p1, c1, p2, c2, p3, c3, he', hB⟩
  rcases hcase with h | ⟨h, h2⟩
  · exact readA_any _ W hs h _ fin
  · exact readB_any _ W hs h h2 _ fin
theorem file_size (I : Img) (hc : checkI I = 0) : (fileI I).size = 16 + 5 * I.data.length + 3 * I.relocs.length + 4096 * I.banks.length ∧ (bodyL I).length ≤ 1099511627776 ∧ 4112 ≤ (fileI I).size ∧ (fileI I).size ≤ 400000 := by
  obtain ⟨v1, v2, hF, v3, v4, v5, v6, _, _⟩ := check_valid I hc
  have h := (bytesOf_size (fileL I)).trans (fileL_len I hF)
  have h2 := bodyL_len I hF
  have e : (fileI I).size = (bytesOf (fileL I)).size := rfl
  refine ⟨h, by omega, by omega, by omega⟩
set_option maxRecDepth 8000 in
set_option maxHeartbeats 4000000 in
theorem imageCuts_walk (ps : Option Addr) (cap : Nat) (L : List Int) (x y : Int) (w : World) (hl : L.length ≤ 9223372036854775807) (hS : IntsAt w ps L) (x0 : -9223372036854775808 ≤ x) (x1 : x ≤ 9223372036854775807) (y0 : -9223372036854775808 ≤ y) (y1 : y ≤ 9223372036854775807) :
    Calls Try.prog 7 #[.slice ps L.length cap, .agg #[.int .i64 x, .int .i64 y]] w fun e w' => e = .returned (.bool true) ∧ Below w.heap.size w w' := by
  have KS := Lib.hid hS
  have KL := Lib.hid hl
  have KW0 := Lib.hid (below1 w (Obj.cells #[.int .i64 x, .int .i64 y] 49))
  have a0 : (w.alloc (Obj.cells #[.int .i64 x, .int .i64 y] 49)).cell? ⟨w.heap.size, 0, none⟩ = some (.int .i64 x) := by simp
  have a1 : (w.alloc (Obj.cells #[.int .i64 x, .int .i64 y] 49)).cell? ⟨w.heap.size, 1, none⟩ = some (.int .i64 y) := by simp
  have hN0 : w.heap.size < (w.alloc (Obj.cells #[.int .i64 x, .int .i64 y] 49)).heap.size := by simp
  clear hS hl
  go_enter Try.func7, Try.ntmps7
  go_wp2_with fail
  generalize w.alloc (Obj.cells #[.int .i64 x, .int .i64 y] 49) = W0 at *
  refine (sanity_any _).mono ?_
  rintro e w1 ⟨rfl, h1⟩
  have KW1 := Lib.hid (below_next KW0.out h1)
  have b0 := (h1.cell (p := ⟨w.heap.size, 0, none⟩) hN0).trans a0
  have b1 := (h1.cell (p := ⟨w.heap.size, 1, none⟩) hN0).trans a1
  have hN1 : w.heap.size < w1.heap.size := by have := h1.size; omega
  clear a0 a1 hN0 h1 KW0
  go_wp2_with fail
  refine (drawn_any ps cap L _ KL.out (KS.out.kept KW1.out)).mono ?_
  rintro e w2 ⟨I, p1, c1, p2, c2, p3, c3, rfl, hI, hc, _, _, _, h2⟩
  obtain ⟨hfs, hbl, hf1, hf2⟩ := file_size I hc
  have KW2 := Lib.hid (below_next KW1.out h2)
  have d0 := (h2.cell (p := ⟨w.heap.size, 0, none⟩) hN1).trans b0
  have d1 := (h2.cell (p := ⟨w.heap.size, 1, none⟩) hN1).trans b1
  have hN2 : w.heap.size < w2.heap.size := by have := h2.size; omega
  have HI := Lib.hid hI
  have HR : Hid (∀ (l : Nat) (W : World), l < (fileI I).size → Calls Try.prog 25 #[.string ((fileI I).extract 0 l)] W (CutPost l W)) := fun l W hl => read_cut I l W hc hI.entry.1 hI.vector.1 hl (by unfold maxLen; omega)
  have HBl := Lib.hid hbl
  clear b0 b1 hN1 h2 KW1 hI hc hbl hfs
  go_wp2_with fail
  refine (rfile_any p1 c1 p2 c2 p3 c3 I _ HI.out HBl.out).mono ?_
  rintro e w3 ⟨rfl, h3⟩
  have KW3 := Lib.hid (below_next KW2.out h3)
  have e0 := (h3.cell (p := ⟨w.heap.size, 0, none⟩) hN2).trans d0
  have e1 := (h3.cell (p := ⟨w.heap.size, 1, none⟩) hN2).trans d1
  have hN3 : w.heap.size < w3.heap.size := by have := h3.size; omega
  clear d0 d1 hN2 h3 KW2 HI HBl
  generalize fileI I = F at *
  obtain ⟨Z, hZ⟩ : ∃ Z : Nat, F.size = Z + 1 := ⟨F.size - 1, by omega⟩
  obtain ⟨m0, g0, HM0⟩ := mod_varN x F.size ⟨x0, x1⟩ (by omega) (by omega)
  obtain ⟨m1, g1, HM1⟩ := mod_varN y 30 ⟨y0, y1⟩ (by decide) (by decide)
  have K0 := Lib.hid HM0
  have K1 := Lib.hid HM1
  have hsub : (F.size : Int) - 1 = (Z : Int) := by omega
  have hsw : IntKind.i64.wrap (Z : Int) = (Z : Int) := IntWalk.i64_in _ (by omega)
  have HA : Hid (∀ w' : World, Below w3.heap.size w3 w' → w'.cell? ⟨w.heap.size, 0, none⟩ = some (.int .i64 x) ∧ w'.cell? ⟨w.heap.size, 1, none⟩ = some (.int .i64 y) ∧ Below w3.heap.size w3 w') :=
    fun w' hb => ⟨(hb.cell hN3).trans e0, (hb.cell hN3).trans e1, hb⟩
  have hm0 : m0 < F.size := by omega
  have hm1 : m1 < F.size := by omega
  have hm2 : Z < F.size := by omega
  clear HM0 HM1 e0 e1 hN3 hZ
  go_wp2_with fail
  go_region_held3 (fun w' => w'.cell? ⟨w.heap.size, 0, none⟩ = some (.int .i64 x) ∧ w'.cell? ⟨w.heap.size, 1, none⟩ = some (.int .i64 y) ∧ Below w3.heap.size w3 w')
    (first
      | exact HA.out _ (Below.drew (Below.refl _ _))
      | exact HA.out _ (Below.drew (below_alloc (Below.refl _ _) _))
      | assumption)
    (first
      | (go_at_call 20; (with_reducible refine (K0.out _).mono ?_); rintro e w2 ⟨rfl, rfl⟩)
      | (go_at_call 20; (with_reducible refine (K1.out _).mono ?_); rintro e w2 ⟨rfl, rfl⟩))
  all_goals
    have hbl4 : Below w3.heap.size w3 (w3.alloc (Obj.cells #[.int .i64 (m0 : Int), .int .i64 (m1 : Int), .int .i64 (Z : Int)] 23)).drew := Below.drew (below_alloc (Below.refl _ _) _)
    have HC : Hid (∀ w' : World, Below (w3.alloc (Obj.cells #[.int .i64 (m0 : Int), .int .i64 (m1 : Int), .int .i64 (Z : Int)] 23)).drew.heap.size (w3.alloc (Obj.cells #[.int .i64 (m0 : Int), .int .i64 (m1 : Int), .int .i64 (Z : Int)] 23)).drew w' → w'.cell? ⟨w3.heap.size, 0, none⟩ = some (.int .i64 (m0 : Int)) ∧ w'.cell? ⟨w3.heap.size, 1, none⟩ = some (.int .i64 (m1 : Int)) ∧ w'.cell? ⟨w3.heap.size, 2, none⟩ = some (.int .i64 (Z : Int))) := by
      intro w' h
      have hz : w3.heap.size < (w3.alloc (Obj.cells #[.int .i64 (m0 : Int), .int .i64 (m1 : Int), .int .i64 (Z : Int)] 23)).drew.heap.size := by simp
      exact ⟨(h.cell hz).trans (by simp [go_sem]), (h.cell hz).trans (by simp [go_sem]), (h.cell hz).trans (by simp [go_sem])⟩
    have KW4 := Lib.hid (below_next KW3.out hbl4)
    clear hbl4 HA hsub hsw
    generalize (w3.alloc (Obj.cells #[.int .i64 (m0 : Int), .int .i64 (m1 : Int), .int .i64 (Z : Int)] 23)).drew = W4 at *
    generalize w3.heap.size = N at *
    go_wp2_with fail
    go_loopw [8] (fun i wr => ∃ j : Int, 0 ≤ j ∧ j ≤ 3 ∧ i = .int .i64 j ∧ Below W4.heap.size W4 wr) (fun i _ => (3 - intOf i).toNat)
    case atStart => exact ⟨0, by omega, by omega, rfl, Below.refl _ _⟩
    case round =>
      obtain ⟨j, j0, j1, rfl, hB⟩ := hrel
      obtain ⟨c0, c1, c2⟩ := HC.out wr hB
      have HBr := Lib.hid hB
      clear hB
      by_cases hj3 : j = 3
      · subst hj3
        go_wp2_with fail
        go_ret
        exact ⟨rfl, below_next KW4.out HBr.out⟩
      by_cases hj : j = 0
      · subst hj
        clear j0 j1 hj3
        have hlI : (m0 : Int) ≤ F.size := by omega
        go_wp2_with fail
        refine (HR.out m0 _ (by omega)).mono ?_
        rintro e wA ⟨q1, d1, q2, d2, q3, d3, rfl, hA⟩
        have hBA := below_alloc (below_next HBr.out hA) (Obj.cells #[.slice q1 0 d1, .int .u16 0, .int .u16 0, .slice q2 0 d2, .slice q3 0 d3] 30)
        obtain ⟨f0, f1, f2⟩ := HC.out _ hBA
        have p0 : (wA.alloc (Obj.cells #[.slice q1 0 d1, .int .u16 0, .int .u16 0, .slice q2 0 d2, .slice q3 0 d3] 30)).cell? ⟨wA.heap.size, 0, none⟩ = some (.slice q1 0 d1) := by simp
        have HBA := Lib.hid hBA
        clear hBA hA c0 c1 c2
        go_wp2_with fail
        go_roundw
        case rel => exact ⟨0 + 1, by omega, by omega, by go_num, HBA.out⟩
        case measure => simp [intOf] <;> omega
      by_cases hj : j = 1
      · subst hj
        clear j0 j1 hj3
        have hlI : (m1 : Int) ≤ F.size := by omega
        go_wp2_with fail
        refine (HR.out m1 _ (by omega)).mono ?_
        rintro e wA ⟨q1, d1, q2, d2, q3, d3, rfl, hA⟩
        have hBA := below_alloc (below_next HBr.out hA) (Obj.cells #[.slice q1 0 d1, .int .u16 0, .int .u16 0, .slice q2 0 d2, .slice q3 0 d3] 30)
        obtain ⟨f0, f1, f2⟩ := HC.out _ hBA
        have p0 : (wA.alloc (Obj.cells #[.slice q1 0 d1, .int .u16 0, .int .u16 0, .slice q2 0 d2, .slice q3 0 d3] 30)).cell? ⟨wA.heap.size, 0, none⟩ = some (.slice q1 0 d1) := by simp
        have HBA := Lib.hid hBA
        clear hBA hA c0 c1 c2
        go_wp2_with fail
        go_roundw
        case rel => exact ⟨1 + 1, by omega, by omega, by go_num, HBA.out⟩
        case measure => simp [intOf] <;> omega
      obtain hj : j = 2 := by omega
      · subst hj
        clear j0 j1 hj3
        have hlI : (Z : Int) ≤ F.size := by omega
        go_wp2_with fail
        refine (HR.out Z _ (by omega)).mono ?_
        rintro e wA ⟨q1, d1, q2, d2, q3, d3, rfl, hA⟩
        have hBA := below_alloc (below_next HBr.out hA) (Obj.cells #[.slice q1 0 d1, .int .u16 0, .int .u16 0, .slice q2 0 d2, .slice q3 0 d3] 30)
        obtain ⟨f0, f1, f2⟩ := HC.out _ hBA
        have p0 : (wA.alloc (Obj.cells #[.slice q1 0 d1, .int .u16 0, .int .u16 0, .slice q2 0 d2, .slice q3 0 d3] 30)).cell? ⟨wA.heap.size, 0, none⟩ = some (.slice q1 0 d1) := by simp
        have HBA := Lib.hid hBA
        clear hBA hA c0 c1 c2
        go_wp2_with fail
        go_roundw
        case rel => exact ⟨2 + 1, by omega, by omega, by go_num, HBA.out⟩
        case measure => simp [intOf] <;> omega
end Go.Proofs.Ytgdiaaoekkdibaa
