/- ImageChecks: the walk of the law. -/
import Derived.Test.YtgdiaaoekkdibaaTJ
import Derived.Test.YtgdiaaoekkdibaaD2
import Derived.Test.YtgdiaaoekkdibaaE3
import Derived.Test.YtgdiaaoekkdibaaI7
import Derived.Test.YtgdiaaoekkdibaaFlow
namespace Go.Proofs.Ytgdiaaoekkdibaa
set_option linter.unusedVariables false
set_option linter.unusedSimpArgs false
open Go.RowKit
theorem full_size {I : Img} (hc : checkI I = 0) : ∀ s ∈ I.banks, s.size ≤ 4096 := by
  obtain ⟨_, _, hF, _⟩ := check_valid I hc
  intro s hs
  have := hF s hs
  omega
theorem two_arrs (w : World) (x y z a b c : Int) : ∀ W' : World, Below ((w.alloc (Obj.cells #[.int .i64 x, .int .i64 y, .int .i64 z] 23)).alloc (Obj.cells #[.int .i64 a, .int .i64 b, .int .i64 c] 23)).heap.size ((w.alloc (Obj.cells #[.int .i64 x, .int .i64 y, .int .i64 z] 23)).alloc (Obj.cells #[.int .i64 a, .int .i64 b, .int .i64 c] 23)) W' → W'.cell? ⟨w.heap.size, 0, none⟩ = some (.int .i64 x) ∧ W'.cell? ⟨w.heap.size, 1, none⟩ = some (.int .i64 y) ∧ W'.cell? ⟨w.heap.size, 2, none⟩ = some (.int .i64 z) ∧ W'.cell? ⟨w.heap.size + 1, 0, none⟩ = some (.int .i64 a) ∧ W'.cell? ⟨w.heap.size + 1, 1, none⟩ = some (.int .i64 b) ∧ W'.cell? ⟨w.heap.size + 1, 2, none⟩ = some (.int .i64 c) := by
  intro W' h
  have g0 : w.heap.size < ((w.alloc (Obj.cells #[.int .i64 x, .int .i64 y, .int .i64 z] 23)).alloc (Obj.cells #[.int .i64 a, .int .i64 b, .int .i64 c] 23)).heap.size := by simp; omega
  have g1 : w.heap.size + 1 < ((w.alloc (Obj.cells #[.int .i64 x, .int .i64 y, .int .i64 z] 23)).alloc (Obj.cells #[.int .i64 a, .int .i64 b, .int .i64 c] 23)).heap.size := by simp
  exact ⟨(h.cell (p := ⟨w.heap.size, 0, none⟩) g0).trans (by simp [go_sem]), (h.cell (p := ⟨w.heap.size, 1, none⟩) g0).trans (by simp [go_sem]), (h.cell (p := ⟨w.heap.size, 2, none⟩) g0).trans (by simp [go_sem]), (h.cell (p := ⟨w.heap.size + 1, 0, none⟩) g1).trans (by simp [go_sem]), (h.cell (p := ⟨w.heap.size + 1, 1, none⟩) g1).trans (by simp [go_sem]), (h.cell (p := ⟨w.heap.size + 1, 2, none⟩) g1).trans (by simp [go_sem])⟩
theorem laid_cells (W : World) (v0 v1 v2 v3 v4 : Value) : ∀ V : World, Below (W.alloc (Obj.cells #[v0, v1, v2, v3, v4] 30)).heap.size (W.alloc (Obj.cells #[v0, v1, v2, v3, v4] 30)) V →
    V.cell? ⟨W.heap.size, 0, none⟩ = some v0 ∧ V.cell? ⟨W.heap.size, 1, none⟩ = some v1 ∧ V.cell? ⟨W.heap.size, 2, none⟩ = some v2 ∧ V.cell? ⟨W.heap.size, 3, none⟩ = some v3 ∧ V.cell? ⟨W.heap.size, 4, none⟩ = some v4 := by
  intro V h
  have g : W.heap.size < (W.alloc (Obj.cells #[v0, v1, v2, v3, v4] 30)).heap.size := by simp
  exact ⟨(h.cell (p := ⟨W.heap.size, 0, none⟩) g).trans (by simp [go_sem]), (h.cell (p := ⟨W.heap.size, 1, none⟩) g).trans (by simp [go_sem]), (h.cell (p := ⟨W.heap.size, 2, none⟩) g).trans (by simp [go_sem]), (h.cell (p := ⟨W.heap.size, 3, none⟩) g).trans (by simp [go_sem]), (h.cell (p := ⟨W.heap.size, 4, none⟩) g).trans (by simp [go_sem])⟩
set_option maxRecDepth 8000 in
set_option maxHeartbeats 4000000 in
theorem imageChecks_walk (ps : Option Addr) (cap : Nat) (L : List Int) (x y z a b c : Int) (w : World) (hl : L.length ≤ 9223372036854775807) (hS : IntsAt w ps L) (x0 : -9223372036854775808 ≤ x) (x1 : x ≤ 9223372036854775807) (y0 : -9223372036854775808 ≤ y) (y1 : y ≤ 9223372036854775807) (z0 : -9223372036854775808 ≤ z) (z1 : z ≤ 9223372036854775807) (a0 : -9223372036854775808 ≤ a) (a1 : a ≤ 9223372036854775807) (b0 : -9223372036854775808 ≤ b) (b1 : b ≤ 9223372036854775807) (c0 : -9223372036854775808 ≤ c) (c1 : c ≤ 9223372036854775807) :
    Calls Try.prog 3 #[.slice ps L.length cap, .agg #[.int .i64 x, .int .i64 y, .int .i64 z], .agg #[.int .i64 a, .int .i64 b, .int .i64 c]] w fun e w' => e = .returned (.bool true) ∧ Below w.heap.size w w' := by
  have KS := Lib.hid hS
  have KL := Lib.hid hl
  have KX : Hid (OkI64 x) := ⟨x0, x1⟩
  have KY : Hid (OkI64 y) := ⟨y0, y1⟩
  have KZ : Hid (OkI64 z) := ⟨z0, z1⟩
  have KA : Hid (OkI64 a) := ⟨a0, a1⟩
  have KB : Hid (OkI64 b) := ⟨b0, b1⟩
  have KC : Hid (OkI64 c) := ⟨c0, c1⟩
  clear hS hl x0 x1 y0 y1 z0 z1 a0 a1 b0 b1 c0 c1
  have KQ := Lib.hid (two_arrs w x y z a b c)
  have KW0 := Lib.hid (below_alloc (below1 w (Obj.cells #[.int .i64 x, .int .i64 y, .int .i64 z] 23)) (Obj.cells #[.int .i64 a, .int .i64 b, .int .i64 c] 23))
  go_enter Try.func3, Try.ntmps3
  go_wp2_with fail
  have hW0 : (((w.alloc (Obj.cells #[.int .i64 x, .int .i64 y, .int .i64 z] 23)).alloc (Obj.cells #[.int .i64 a, .int .i64 b, .int .i64 c] 23))).heap.size = w.heap.size + 2 := by simp
  generalize ((w.alloc (Obj.cells #[.int .i64 x, .int .i64 y, .int .i64 z] 23)).alloc (Obj.cells #[.int .i64 a, .int .i64 b, .int .i64 c] 23)) = W0 at *
  refine (sanity_any _).mono ?_
  rintro e w1 ⟨rfl, h1⟩
  have KW1 := Lib.hid (below_next KW0.out h1)
  have KB1 := Lib.hid h1
  obtain ⟨e0, e1, e2, e3, e4, e5⟩ := KQ.out _ KB1.out
  clear h1 KW0
  go_wp2_with fail
  refine (drawn_any ps cap L _ KL.out (KS.out.kept KW1.out)).mono ?_
  rintro e w2 ⟨I, p1, c1, p2, c2, p3, c3, rfl, hI, hc, l1, l2, l3, h2⟩
  have KW2 := Lib.hid (below_next KW1.out h2)
  have KB2 := Lib.hid (below_next KB1.out h2)
  clear e0 e1 e2 e3 e4 e5
  obtain ⟨e0, e1, e2, e3, e4, e5⟩ := KQ.out _ KB2.out
  clear KB1
  clear e0 e1 e2 e3 e4 e5
  have HI := Lib.hid (hI.kept (below1 w2 (Obj.cells #[.slice p1 I.banks.length c1, .int .u16 I.entry, .int .u16 I.vector, .slice p2 I.data.length c2, .slice p3 I.relocs.length c3] 30)))
  have HC := Lib.hid hc
  have HF := Lib.hid (full_size hc)
  have KI := Lib.hid (laid_cells w2 (.slice p1 I.banks.length c1) (.int .u16 I.entry) (.int .u16 I.vector) (.slice p2 I.data.length c2) (.slice p3 I.relocs.length c3))
  have KWA := Lib.hid (KW2.out.trans ((below1 w2 (Obj.cells #[.slice p1 I.banks.length c1, .int .u16 I.entry, .int .u16 I.vector, .slice p2 I.data.length c2, .slice p3 I.relocs.length c3] 30)).mono (by have := KW2.out.size; omega)))
  have KBA := Lib.hid (below_next KB2.out (below1 w2 (Obj.cells #[.slice p1 I.banks.length c1, .int .u16 I.entry, .int .u16 I.vector, .slice p2 I.data.length c2, .slice p3 I.relocs.length c3] 30)))
  obtain ⟨e0, e1, e2, e3, e4, e5⟩ := KQ.out _ KBA.out
  obtain ⟨i0, i1, i2, i3, i4⟩ := KI.out _ (Below.refl _ _)
  clear hI hc h2 KW1 KW2 KB2
  simp only [imgV]
  go_wp2_with fail
  generalize w2.alloc (Obj.cells #[.slice p1 I.banks.length c1, .int .u16 I.entry, .int .u16 I.vector, .slice p2 I.data.length c2, .slice p3 I.relocs.length c3] 30) = WA at *
  refine (turned_any p1 c1 p2 c2 p3 c3 I x y z WA HI.out HF.out (by omega) (by omega) (by omega) KX.out KY.out KZ.out (TurnedPost I WA) (fun _ _ h => h)).mono ?_
  rintro e w3 ⟨J, q1, d1, q2, d2, q3, d3, rfl, hJ, hFJ, m1, m2, m3, h3⟩
  have HI3 := Lib.hid (HI.out.kept (below_next h3 (below1 w3 (Obj.cells #[.slice q1 J.banks.length d1, .int .u16 J.entry, .int .u16 J.vector, .slice q2 J.data.length d2, .slice q3 J.relocs.length d3] 30))))
  have HJ := Lib.hid (hJ.kept (below1 w3 (Obj.cells #[.slice q1 J.banks.length d1, .int .u16 J.entry, .int .u16 J.vector, .slice q2 J.data.length d2, .slice q3 J.relocs.length d3] 30)))
  have HFJ := Lib.hid hFJ
  have KJ := Lib.hid (laid_cells w3 (.slice q1 J.banks.length d1) (.int .u16 J.entry) (.int .u16 J.vector) (.slice q2 J.data.length d2) (.slice q3 J.relocs.length d3))
  have KVB := Lib.hid (below_next h3 (below1 w3 (Obj.cells #[.slice q1 J.banks.length d1, .int .u16 J.entry, .int .u16 J.vector, .slice q2 J.data.length d2, .slice q3 J.relocs.length d3] 30)))
  have KWB := Lib.hid (below_next KWA.out KVB.out)
  have KBB := Lib.hid (below_next KBA.out KVB.out)
  clear e0 e1 e2 e3 e4 e5 i0 i1 i2 i3 i4
  obtain ⟨e0, e1, e2, e3, e4, e5⟩ := KQ.out _ KBB.out
  obtain ⟨i0, i1, i2, i3, i4⟩ := KI.out _ KVB.out
  obtain ⟨j0, j1, j2, j3, j4⟩ := KJ.out _ (Below.refl _ _)
  clear hJ hFJ h3 KWA KBA HI HF
  simp only [imgV]
  go_wp2_with fail
  generalize w3.alloc (Obj.cells #[.slice q1 J.banks.length d1, .int .u16 J.entry, .int .u16 J.vector, .slice q2 J.data.length d2, .slice q3 J.relocs.length d3] 30) = WB at *
  refine (turned_any q1 d1 q2 d2 q3 d3 J a b c WB HJ.out HFJ.out (by omega) (by omega) (by omega) KA.out KB.out KC.out (TurnedPost J WB) (fun _ _ h => h)).mono ?_
  rintro e w4 ⟨H, r1, f1, r2, f2, r3, f3, rfl, hH, _, _, _, _, h4⟩
  have KVC := Lib.hid (below_next h4 (below1 w4 (Obj.cells #[.slice r1 H.banks.length f1, .int .u16 H.entry, .int .u16 H.vector, .slice r2 H.data.length f2, .slice r3 H.relocs.length f3] 30)))
  have HI4 := Lib.hid (HI3.out.kept KVC.out)
  have HJ4 := Lib.hid (HJ.out.kept KVC.out)
  have HH := Lib.hid (hH.kept (below1 w4 (Obj.cells #[.slice r1 H.banks.length f1, .int .u16 H.entry, .int .u16 H.vector, .slice r2 H.data.length f2, .slice r3 H.relocs.length f3] 30)))
  have KH := Lib.hid (laid_cells w4 (.slice r1 H.banks.length f1) (.int .u16 H.entry) (.int .u16 H.vector) (.slice r2 H.data.length f2) (.slice r3 H.relocs.length f3))
  have KWC := Lib.hid (below_next KWB.out KVC.out)
  have KVI := Lib.hid (below_next KVB.out KVC.out)
  clear e0 e1 e2 e3 e4 e5 i0 i1 i2 i3 i4 j0 j1 j2 j3 j4
  obtain ⟨i0, i1, i2, i3, i4⟩ := KI.out _ KVI.out
  obtain ⟨j0, j1, j2, j3, j4⟩ := KJ.out _ KVC.out
  obtain ⟨k0, k1, k2, k3, k4⟩ := KH.out _ (Below.refl _ _)
  clear hH h4 KWB KBB HI3 HJ HFJ
  simp only [imgV]
  go_wp2_with fail
  generalize w4.alloc (Obj.cells #[.slice r1 H.banks.length f1, .int .u16 H.entry, .int .u16 H.vector, .slice r2 H.data.length f2, .slice r3 H.relocs.length f3] 30) = WC at *
  have HA : Hid (∀ V, Below WC.heap.size WC V → (V.cell? ⟨w2.heap.size, 0, none⟩ = some (.slice p1 I.banks.length c1) ∧ V.cell? ⟨w2.heap.size, 1, none⟩ = some (.int .u16 I.entry) ∧ V.cell? ⟨w2.heap.size, 2, none⟩ = some (.int .u16 I.vector) ∧ V.cell? ⟨w2.heap.size, 3, none⟩ = some (.slice p2 I.data.length c2) ∧ V.cell? ⟨w2.heap.size, 4, none⟩ = some (.slice p3 I.relocs.length c3)) ∧ (V.cell? ⟨w3.heap.size, 0, none⟩ = some (.slice q1 J.banks.length d1) ∧ V.cell? ⟨w3.heap.size, 1, none⟩ = some (.int .u16 J.entry) ∧ V.cell? ⟨w3.heap.size, 2, none⟩ = some (.int .u16 J.vector) ∧ V.cell? ⟨w3.heap.size, 3, none⟩ = some (.slice q2 J.data.length d2) ∧ V.cell? ⟨w3.heap.size, 4, none⟩ = some (.slice q3 J.relocs.length d3)) ∧ (V.cell? ⟨w4.heap.size, 0, none⟩ = some (.slice r1 H.banks.length f1) ∧ V.cell? ⟨w4.heap.size, 1, none⟩ = some (.int .u16 H.entry) ∧ V.cell? ⟨w4.heap.size, 2, none⟩ = some (.int .u16 H.vector) ∧ V.cell? ⟨w4.heap.size, 3, none⟩ = some (.slice r2 H.data.length f2) ∧ V.cell? ⟨w4.heap.size, 4, none⟩ = some (.slice r3 H.relocs.length f3)) ∧ Below WC.heap.size WC V) := fun V hb => ⟨KI.out _ (below_next KVI.out hb), KJ.out _ (below_next KVC.out hb), KH.out _ hb, hb⟩
  have ck : Hid (∀ V, Below WC.heap.size WC V → Calls Try.prog 18 #[imgV p1 c1 p2 c2 p3 c3 I] V fun e w' => e = .returned (.int .i64 0) ∧ Below V.heap.size V w') := fun V hb => by
    have := check_any p1 c1 p2 c2 p3 c3 I V (HI4.out.kept hb)
    rwa [HC.out] at this
  clear i0 i1 i2 i3 i4 j0 j1 j2 j3 j4 k0 k1 k2 k3 k4
  refine wp_region_flow (S := fun V => Below WC.heap.size WC V) (by kernel_rfl) (by kernel_rfl) (Below.drew (Below.refl _ _)) ?_
  refine Flow.step ?_ (fun V K hS hK => ?_) ?_
  rotate_left
  · go_simp
    exact hK _ hS
  simp only [Act.put, List.setIfInBounds_toArray, List.set_cons_zero, List.set_cons_succ]
  refine Flow.step ?_ (fun V K hS hK => ?_) ?_
  rotate_left
  · go_simp
    exact hK _ hS
  simp only [Act.put, List.setIfInBounds_toArray, List.set_cons_zero, List.set_cons_succ]
  refine Flow.step ?_ (fun V K hS hK => ?_) ?_
  rotate_left
  · obtain ⟨i0, i1, i2, i3, i4⟩ := KI.out _ (below_next KVI.out hS)
    go_simp
    exact hK _ hS
  simp only [Act.put, List.setIfInBounds_toArray, List.set_cons_zero, List.set_cons_succ]
  refine Flow.step ?_ (fun V K hS hK => ?_) ?_
  rotate_left
  · go_simp
    go_at_call 18
    refine (ck.out _ hS).mono ?_
    rintro e w9 ⟨rfl, h9⟩
    exact hK _ (below_next hS h9)
  simp only [Act.put, List.setIfInBounds_toArray, List.set_cons_zero, List.set_cons_succ]
  refine Flow.step ?_ (fun V K hS hK => ?_) ?_
  rotate_left
  · go_simp
    exact hK _ hS
  simp only [Act.put, List.setIfInBounds_toArray, List.set_cons_zero, List.set_cons_succ]
  refine Flow.step ?_ (fun V K hS hK => ?_) ?_
  rotate_left
  · go_simp
    exact hK _ hS
  simp only [Act.put, List.setIfInBounds_toArray, List.set_cons_zero, List.set_cons_succ]
  refine Flow.step ?_ (fun V K hS hK => ?_) ?_
  rotate_left
  · go_simp
    exact hK _ hS
  simp only [Act.put, List.setIfInBounds_toArray, List.set_cons_zero, List.set_cons_succ]
  refine Flow.step ?_ (fun V K hS hK => ?_) ?_
  rotate_left
  · obtain ⟨i0, i1, i2, i3, i4⟩ := KJ.out _ (below_next KVC.out hS)
    go_simp
    exact hK _ hS
  simp only [Act.put, List.setIfInBounds_toArray, List.set_cons_zero, List.set_cons_succ]
  refine Flow.step ?_ (fun V K hS hK => ?_) ?_
  rotate_left
  · go_simp
    go_at_call 18
    refine (check_any q1 d1 q2 d2 q3 d3 J _ (HJ4.out.kept hS)).mono ?_
    rintro e w9 ⟨rfl, h9⟩
    exact hK _ (below_next hS h9)
  simp only [Act.put, List.setIfInBounds_toArray, List.set_cons_zero, List.set_cons_succ]
  refine Flow.step ?_ (fun V K hS hK => ?_) ?_
  rotate_left
  · obtain ⟨i0, i1, i2, i3, i4⟩ := KJ.out _ (below_next KVC.out hS)
    go_simp
    exact hK _ hS
  simp only [Act.put, List.setIfInBounds_toArray, List.set_cons_zero, List.set_cons_succ]
  refine Flow.step ?_ (fun V K hS hK => ?_) ?_
  rotate_left
  · go_simp
    go_at_call 19
    refine (rcheck_any q1 d1 q2 d2 q3 d3 J _ (HJ4.out.kept hS)).mono ?_
    rintro e w9 ⟨rfl, h9⟩
    exact hK _ (below_next hS h9)
  simp only [Act.put, List.setIfInBounds_toArray, List.set_cons_zero, List.set_cons_succ]
  refine Flow.step ?_ (fun V K hS hK => ?_) ?_
  rotate_left
  · go_simp
    exact hK _ hS
  simp only [Act.put, List.setIfInBounds_toArray, List.set_cons_zero, List.set_cons_succ]
  refine Flow.step ?_ (fun V K hS hK => ?_) ?_
  rotate_left
  · go_simp
    exact hK _ hS
  simp only [Act.put, List.setIfInBounds_toArray, List.set_cons_zero, List.set_cons_succ]
  refine Flow.step ?_ (fun V K hS hK => ?_) ?_
  rotate_left
  · go_simp
    exact hK _ hS
  simp only [Act.put, List.setIfInBounds_toArray, List.set_cons_zero, List.set_cons_succ]
  refine Flow.step ?_ (fun V K hS hK => ?_) ?_
  rotate_left
  · obtain ⟨i0, i1, i2, i3, i4⟩ := KH.out _ hS
    go_simp
    exact hK _ hS
  simp only [Act.put, List.setIfInBounds_toArray, List.set_cons_zero, List.set_cons_succ]
  refine Flow.step ?_ (fun V K hS hK => ?_) ?_
  rotate_left
  · go_simp
    go_at_call 18
    refine (check_any r1 f1 r2 f2 r3 f3 H _ (HH.out.kept hS)).mono ?_
    rintro e w9 ⟨rfl, h9⟩
    exact hK _ (below_next hS h9)
  simp only [Act.put, List.setIfInBounds_toArray, List.set_cons_zero, List.set_cons_succ]
  refine Flow.step ?_ (fun V K hS hK => ?_) ?_
  rotate_left
  · obtain ⟨i0, i1, i2, i3, i4⟩ := KH.out _ hS
    go_simp
    exact hK _ hS
  simp only [Act.put, List.setIfInBounds_toArray, List.set_cons_zero, List.set_cons_succ]
  refine Flow.step ?_ (fun V K hS hK => ?_) ?_
  rotate_left
  · go_simp
    go_at_call 19
    refine (rcheck_any r1 f1 r2 f2 r3 f3 H _ (HH.out.kept hS)).mono ?_
    rintro e w9 ⟨rfl, h9⟩
    exact hK _ (below_next hS h9)
  simp only [Act.put, List.setIfInBounds_toArray, List.set_cons_zero, List.set_cons_succ]
  refine Flow.step ?_ (fun V K hS hK => ?_) ?_
  rotate_left
  · go_simp
    exact hK _ hS
  simp only [Act.put, List.setIfInBounds_toArray, List.set_cons_zero, List.set_cons_succ]
  refine Flow.step ?_ (fun V K hS hK => ?_) ?_
  rotate_left
  · go_simp
    exact hK _ hS
  simp only [Act.put, List.setIfInBounds_toArray, List.set_cons_zero, List.set_cons_succ]
  refine Flow.step ?_ (fun V K hS hK => ?_) ?_
  rotate_left
  · go_simp
    exact hK _ hS
  simp only [Act.put, List.setIfInBounds_toArray, List.set_cons_zero, List.set_cons_succ]
  refine Flow.done fun V hS => ?_
  go_wp2_with fail
  go_ret
  exact ⟨rfl, below_next KWC.out hS⟩
end Go.Proofs.Ytgdiaaoekkdibaa
