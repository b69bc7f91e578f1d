/- Contracts of Same and its reference. -/
import Derived.Test.YtgdiaaoekkdibaaQ1
namespace Go.Proofs.Ytgdiaaoekkdibaa
set_option linter.unusedVariables false
set_option linter.unusedSimpArgs false
open Go.RowKit
def sameI (A B : Img) : Bool := (A.entry == B.entry) && (A.vector == B.vector) && sameL A.banks B.banks && sameL A.data B.data && sameL A.relocs B.relocs
theorem two_imgs (w : World) (u0 u1 u2 u3 u4 v0 v1 v2 v3 v4 : Value) : ∀ V : World, Below ((w.alloc (Obj.cells #[u0, u1, u2, u3, u4] 30)).alloc (Obj.cells #[v0, v1, v2, v3, v4] 30)).heap.size ((w.alloc (Obj.cells #[u0, u1, u2, u3, u4] 30)).alloc (Obj.cells #[v0, v1, v2, v3, v4] 30)) V →
    (V.cell? ⟨w.heap.size, 0, none⟩ = some u0 ∧ V.cell? ⟨w.heap.size, 1, none⟩ = some u1 ∧ V.cell? ⟨w.heap.size, 2, none⟩ = some u2 ∧ V.cell? ⟨w.heap.size, 3, none⟩ = some u3 ∧ V.cell? ⟨w.heap.size, 4, none⟩ = some u4) ∧
    (V.cell? ⟨w.heap.size + 1, 0, none⟩ = some v0 ∧ V.cell? ⟨w.heap.size + 1, 1, none⟩ = some v1 ∧ V.cell? ⟨w.heap.size + 1, 2, none⟩ = some v2 ∧ V.cell? ⟨w.heap.size + 1, 3, none⟩ = some v3 ∧ V.cell? ⟨w.heap.size + 1, 4, none⟩ = some v4) := by
  intro V h
  have g0 : w.heap.size < ((w.alloc (Obj.cells #[u0, u1, u2, u3, u4] 30)).alloc (Obj.cells #[v0, v1, v2, v3, v4] 30)).heap.size := by simp; omega
  have g1 : w.heap.size + 1 < ((w.alloc (Obj.cells #[u0, u1, u2, u3, u4] 30)).alloc (Obj.cells #[v0, v1, v2, v3, v4] 30)).heap.size := by simp
  refine ⟨⟨?_, ?_, ?_, ?_, ?_⟩, ?_, ?_, ?_, ?_, ?_⟩
  · exact (h.cell (p := ⟨w.heap.size, 0, none⟩) g0).trans (by simp [go_sem])
  · exact (h.cell (p := ⟨w.heap.size, 1, none⟩) g0).trans (by simp [go_sem])
  · exact (h.cell (p := ⟨w.heap.size, 2, none⟩) g0).trans (by simp [go_sem])
  · exact (h.cell (p := ⟨w.heap.size, 3, none⟩) g0).trans (by simp [go_sem])
  · exact (h.cell (p := ⟨w.heap.size, 4, none⟩) g0).trans (by simp [go_sem])
  · exact (h.cell (p := ⟨w.heap.size + 1, 0, none⟩) g1).trans (by simp [go_sem])
  · exact (h.cell (p := ⟨w.heap.size + 1, 1, none⟩) g1).trans (by simp [go_sem])
  · exact (h.cell (p := ⟨w.heap.size + 1, 2, none⟩) g1).trans (by simp [go_sem])
  · exact (h.cell (p := ⟨w.heap.size + 1, 3, none⟩) g1).trans (by simp [go_sem])
  · exact (h.cell (p := ⟨w.heap.size + 1, 4, none⟩) g1).trans (by simp [go_sem])
set_option maxRecDepth 8000 in
set_option maxHeartbeats 4000000 in
theorem same_any (p1 : Option Addr) (p1c : Nat) (p2 : Option Addr) (p2c : Nat) (p3 : Option Addr) (p3c : Nat) (A : Img) (q1 : Option Addr) (q1c : Nat) (q2 : Option Addr) (q2c : Nat) (q3 : Option Addr) (q3c : Nat) (B : Img) (w : World) (hA : ImgAt w p1 p2 p3 A) (hB : ImgAt w q1 q2 q3 B) :
    Calls Try.prog 37 #[imgV p1 p1c p2 p2c p3 p3c A, imgV q1 q1c q2 q2c q3 q3c B] w fun e w' => e = .returned (.bool (sameI A B)) ∧ Below w.heap.size w w' := by
  have HW := Lib.hid (below_alloc (below1 w (Obj.cells #[.slice p1 A.banks.length p1c, .int .u16 A.entry, .int .u16 A.vector, .slice p2 A.data.length p2c, .slice p3 A.relocs.length p3c] 30)) (Obj.cells #[.slice q1 B.banks.length q1c, .int .u16 B.entry, .int .u16 B.vector, .slice q2 B.data.length q2c, .slice q3 B.relocs.length q3c] 30))
  have HA := Lib.hid (hA.kept HW.out)
  have HB := Lib.hid (hB.kept HW.out)
  have KF := Lib.hid (two_imgs w (.slice p1 A.banks.length p1c) (.int .u16 A.entry) (.int .u16 A.vector) (.slice p2 A.data.length p2c) (.slice p3 A.relocs.length p3c) (.slice q1 B.banks.length q1c) (.int .u16 B.entry) (.int .u16 B.vector) (.slice q2 B.data.length q2c) (.slice q3 B.relocs.length q3c))
  clear hA hB
  obtain ⟨⟨e0, e1, e2, e3, e4⟩, d0, d1, d2, d3, d4⟩ := KF.out _ (Below.refl _ _)
  show Calls Try.prog 37 #[.agg #[.slice p1 A.banks.length p1c, .int .u16 A.entry, .int .u16 A.vector, .slice p2 A.data.length p2c, .slice p3 A.relocs.length p3c], .agg #[.slice q1 B.banks.length q1c, .int .u16 B.entry, .int .u16 B.vector, .slice q2 B.data.length q2c, .slice q3 B.relocs.length q3c]] w _
  rcases (Bool.eq_false_or_eq_true ((A.entry == B.entry))).symm with g0 | g0
  · have HR : Hid (sameI A B = false) := Lib.hid (by unfold sameI; simp [g0])
    go_enter Try.func37, Try.ntmps37
    go_wp2_with fail
    go_ret
    exact ⟨by rw [HR.out]; rfl, HW.out⟩
  · rcases (Bool.eq_false_or_eq_true ((A.vector == B.vector))).symm with g1 | g1
    · have HR : Hid (sameI A B = false) := Lib.hid (by unfold sameI; simp [g0, g1])
      go_enter Try.func37, Try.ntmps37
      go_wp2_with fail
      go_ret
      exact ⟨by rw [HR.out]; rfl, HW.out⟩
    · rcases (Bool.eq_false_or_eq_true (sameL A.banks B.banks)).symm with g2 | g2
      · have HR : Hid (sameI A B = false) := Lib.hid (by unfold sameI; simp [g0, g1, g2])
        have G2 := Lib.hid g2
        clear g2
        go_enter Try.func37, Try.ntmps37
        go_wp2_with fail
        refine (equalS_any p1 p1c q1 q1c A.banks B.banks _ HA.out.l1 HB.out.l1 (HA.out.kept (Below.refl _ _)).banks (HB.out.kept (Below.refl _ _)).banks).mono ?_
        rintro e x2 ⟨rfl, h2⟩
        have K2 := Lib.hid (below_next (Below.refl _ _) h2)
        clear h2 e0 e1 e2 e3 e4 d0 d1 d2 d3 d4
        obtain ⟨⟨e0, e1, e2, e3, e4⟩, d0, d1, d2, d3, d4⟩ := KF.out _ K2.out
        rw [G2.out]
        go_wp2_with fail
        go_ret
        exact ⟨by rw [HR.out]; rfl, below_next HW.out K2.out⟩
      · rcases (Bool.eq_false_or_eq_true (sameL A.data B.data)).symm with g3 | g3
        · have HR : Hid (sameI A B = false) := Lib.hid (by unfold sameI; simp [g0, g1, g2, g3])
          have G2 := Lib.hid g2
          have G3 := Lib.hid g3
          clear g2 g3
          go_enter Try.func37, Try.ntmps37
          go_wp2_with fail
          refine (equalS_any p1 p1c q1 q1c A.banks B.banks _ HA.out.l1 HB.out.l1 (HA.out.kept (Below.refl _ _)).banks (HB.out.kept (Below.refl _ _)).banks).mono ?_
          rintro e x2 ⟨rfl, h2⟩
          have K2 := Lib.hid (below_next (Below.refl _ _) h2)
          clear h2 e0 e1 e2 e3 e4 d0 d1 d2 d3 d4
          obtain ⟨⟨e0, e1, e2, e3, e4⟩, d0, d1, d2, d3, d4⟩ := KF.out _ K2.out
          rw [G2.out]
          go_wp2_with fail
          refine (equalO_any p2 p2c q2 q2c A.data B.data _ HA.out.l2 HB.out.l2 (HA.out.kept K2.out).data (HB.out.kept K2.out).data).mono ?_
          rintro e x3 ⟨rfl, h3⟩
          have K3 := Lib.hid (below_next K2.out h3)
          clear h3 e0 e1 e2 e3 e4 d0 d1 d2 d3 d4
          obtain ⟨⟨e0, e1, e2, e3, e4⟩, d0, d1, d2, d3, d4⟩ := KF.out _ K3.out
          rw [G3.out]
          go_wp2_with fail
          go_ret
          exact ⟨by rw [HR.out]; rfl, below_next HW.out K3.out⟩
        · rcases (Bool.eq_false_or_eq_true (sameL A.relocs B.relocs)).symm with g4 | g4
          · have HR : Hid (sameI A B = false) := Lib.hid (by unfold sameI; simp [g0, g1, g2, g3, g4])
            have G2 := Lib.hid g2
            have G3 := Lib.hid g3
            have G4 := Lib.hid g4
            clear g2 g3 g4
            go_enter Try.func37, Try.ntmps37
            go_wp2_with fail
            refine (equalS_any p1 p1c q1 q1c A.banks B.banks _ HA.out.l1 HB.out.l1 (HA.out.kept (Below.refl _ _)).banks (HB.out.kept (Below.refl _ _)).banks).mono ?_
            rintro e x2 ⟨rfl, h2⟩
            have K2 := Lib.hid (below_next (Below.refl _ _) h2)
            clear h2 e0 e1 e2 e3 e4 d0 d1 d2 d3 d4
            obtain ⟨⟨e0, e1, e2, e3, e4⟩, d0, d1, d2, d3, d4⟩ := KF.out _ K2.out
            rw [G2.out]
            go_wp2_with fail
            refine (equalO_any p2 p2c q2 q2c A.data B.data _ HA.out.l2 HB.out.l2 (HA.out.kept K2.out).data (HB.out.kept K2.out).data).mono ?_
            rintro e x3 ⟨rfl, h3⟩
            have K3 := Lib.hid (below_next K2.out h3)
            clear h3 e0 e1 e2 e3 e4 d0 d1 d2 d3 d4
            obtain ⟨⟨e0, e1, e2, e3, e4⟩, d0, d1, d2, d3, d4⟩ := KF.out _ K3.out
            rw [G3.out]
            go_wp2_with fail
            refine (equalR_any p3 p3c q3 q3c A.relocs B.relocs _ HA.out.l3 HB.out.l3 (HA.out.kept K3.out).relocs (HB.out.kept K3.out).relocs).mono ?_
            rintro e x4 ⟨rfl, h4⟩
            have K4 := Lib.hid (below_next K3.out h4)
            clear h4 e0 e1 e2 e3 e4 d0 d1 d2 d3 d4
            obtain ⟨⟨e0, e1, e2, e3, e4⟩, d0, d1, d2, d3, d4⟩ := KF.out _ K4.out
            rw [G4.out]
            go_wp2_with fail
            go_ret
            exact ⟨by rw [HR.out]; rfl, below_next HW.out K4.out⟩
          · have HR : Hid (sameI A B = true) := Lib.hid (by unfold sameI; simp [g0, g1, g2, g3, g4])
            have G2 := Lib.hid g2
            have G3 := Lib.hid g3
            have G4 := Lib.hid g4
            clear g2 g3 g4
            go_enter Try.func37, Try.ntmps37
            go_wp2_with fail
            refine (equalS_any p1 p1c q1 q1c A.banks B.banks _ HA.out.l1 HB.out.l1 (HA.out.kept (Below.refl _ _)).banks (HB.out.kept (Below.refl _ _)).banks).mono ?_
            rintro e x2 ⟨rfl, h2⟩
            have K2 := Lib.hid (below_next (Below.refl _ _) h2)
            clear h2 e0 e1 e2 e3 e4 d0 d1 d2 d3 d4
            obtain ⟨⟨e0, e1, e2, e3, e4⟩, d0, d1, d2, d3, d4⟩ := KF.out _ K2.out
            rw [G2.out]
            go_wp2_with fail
            refine (equalO_any p2 p2c q2 q2c A.data B.data _ HA.out.l2 HB.out.l2 (HA.out.kept K2.out).data (HB.out.kept K2.out).data).mono ?_
            rintro e x3 ⟨rfl, h3⟩
            have K3 := Lib.hid (below_next K2.out h3)
            clear h3 e0 e1 e2 e3 e4 d0 d1 d2 d3 d4
            obtain ⟨⟨e0, e1, e2, e3, e4⟩, d0, d1, d2, d3, d4⟩ := KF.out _ K3.out
            rw [G3.out]
            go_wp2_with fail
            refine (equalR_any p3 p3c q3 q3c A.relocs B.relocs _ HA.out.l3 HB.out.l3 (HA.out.kept K3.out).relocs (HB.out.kept K3.out).relocs).mono ?_
            rintro e x4 ⟨rfl, h4⟩
            have K4 := Lib.hid (below_next K3.out h4)
            clear h4 e0 e1 e2 e3 e4 d0 d1 d2 d3 d4
            obtain ⟨⟨e0, e1, e2, e3, e4⟩, d0, d1, d2, d3, d4⟩ := KF.out _ K4.out
            rw [G4.out]
            go_wp2_with fail
            go_ret
            exact ⟨by rw [HR.out]; rfl, below_next HW.out K4.out⟩
end Go.Proofs.Ytgdiaaoekkdibaa
