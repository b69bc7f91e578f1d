/- Contract of the reference's Same. -/
import Derived.Test.YtgdiaaoekkdibaaQ2
import Derived.Test.YtgdiaaoekkdibaaFlow
namespace Go.Proofs.Ytgdiaaoekkdibaa
set_option linter.unusedVariables false
set_option linter.unusedSimpArgs false
open Go.RowKit
set_option maxRecDepth 8000 in
set_option maxHeartbeats 4000000 in
theorem rsame_any (p1 : Option Addr) (p1c : Nat) (p2 : Option Addr) (p2c : Nat) (p3 : Option Addr) (p3c : Nat) (A : Img) (q1 : Option Addr) (q1c : Nat) (q2 : Option Addr) (q2c : Nat) (q3 : Option Addr) (q3c : Nat) (B : Img) (w : World) (hA : ImgAt w p1 p2 p3 A) (hB : ImgAt w q1 q2 q3 B) :
    Calls Try.prog 36 #[imgV p1 p1c p2 p2c p3 p3c A, imgV q1 q1c q2 q2c q3 q3c B] w fun e w' => e = .returned (.bool (sameI A B)) ∧ Below w.heap.size w w' := by
  have HW := Lib.hid (below_alloc (below1 w (Obj.cells #[.slice p1 A.banks.length p1c, .int .u16 A.entry, .int .u16 A.vector, .slice p2 A.data.length p2c, .slice p3 A.relocs.length p3c] 30)) (Obj.cells #[.slice q1 B.banks.length q1c, .int .u16 B.entry, .int .u16 B.vector, .slice q2 B.data.length q2c, .slice q3 B.relocs.length q3c] 30))
  have HA := Lib.hid (hA.kept HW.out)
  have HB := Lib.hid (hB.kept HW.out)
  have KF := Lib.hid (two_imgs w (.slice p1 A.banks.length p1c) (.int .u16 A.entry) (.int .u16 A.vector) (.slice p2 A.data.length p2c) (.slice p3 A.relocs.length p3c) (.slice q1 B.banks.length q1c) (.int .u16 B.entry) (.int .u16 B.vector) (.slice q2 B.data.length q2c) (.slice q3 B.relocs.length q3c))
  have la1 := hA.l1
  have la2 := hA.l2
  have la3 := hA.l3
  have lb1 := hB.l1
  have lb2 := hB.l2
  have lb3 := hB.l3
  unfold maxLen at la1 la2 la3 lb1 lb2 lb3
  clear hA hB
  obtain ⟨⟨e0, e1, e2, e3, e4⟩, d0, d1, d2, d3, d4⟩ := KF.out _ (Below.refl _ _)
  show Calls Try.prog 36 #[.agg #[.slice p1 A.banks.length p1c, .int .u16 A.entry, .int .u16 A.vector, .slice p2 A.data.length p2c, .slice p3 A.relocs.length p3c], .agg #[.slice q1 B.banks.length q1c, .int .u16 B.entry, .int .u16 B.vector, .slice q2 B.data.length q2c, .slice q3 B.relocs.length q3c]] w _
  rcases (Bool.eq_false_or_eq_true ((A.entry != B.entry))) with g0 | g0
  · have HR : Hid (sameI A B = false) := Lib.hid (by unfold sameI; have t : ((A.entry == B.entry)) = false := (by simpa using g0); simp [t])
    go_enter Try.func36, Try.ntmps36
    go_wp2_with fail
    go_ret
    exact ⟨by rw [HR.out]; rfl, HW.out⟩
  rcases (Bool.eq_false_or_eq_true ((A.vector != B.vector))) with g1 | g1
  · have HR : Hid (sameI A B = false) := Lib.hid (by unfold sameI; have t : ((A.vector == B.vector)) = false := (by simpa using g1); simp [t])
    go_enter Try.func36, Try.ntmps36
    go_wp2_with fail
    go_ret
    exact ⟨by rw [HR.out]; rfl, HW.out⟩
  rcases (Bool.eq_false_or_eq_true (((A.banks.length : Int) != (B.banks.length : Int)))) with g2 | g2
  · have HR : Hid (sameI A B = false) := Lib.hid (by unfold sameI; rw [sameL_len (l := A.banks) (m := B.banks) (by intro e; simp [e] at g2)]; simp)
    go_enter Try.func36, Try.ntmps36
    go_wp2_with fail
    go_ret
    exact ⟨by rw [HR.out]; rfl, HW.out⟩
  rcases (Bool.eq_false_or_eq_true (((A.data.length : Int) != (B.data.length : Int)))) with g3 | g3
  · have HR : Hid (sameI A B = false) := Lib.hid (by unfold sameI; rw [sameL_len (l := A.data) (m := B.data) (by intro e; simp [e] at g3)]; simp)
    go_enter Try.func36, Try.ntmps36
    go_wp2_with fail
    go_ret
    exact ⟨by rw [HR.out]; rfl, HW.out⟩
  rcases (Bool.eq_false_or_eq_true (((A.relocs.length : Int) != (B.relocs.length : Int)))) with g4 | g4
  · have HR : Hid (sameI A B = false) := Lib.hid (by unfold sameI; rw [sameL_len (l := A.relocs) (m := B.relocs) (by intro e; simp [e] at g4)]; simp)
    go_enter Try.func36, Try.ntmps36
    go_wp2_with fail
    go_ret
    exact ⟨by rw [HR.out]; rfl, HW.out⟩
  have N1 : Hid (A.banks.length = B.banks.length) := Lib.hid (by have t := g2; simp at t; omega)
  have N2 : Hid (A.data.length = B.data.length) := Lib.hid (by have t := g3; simp at t; omega)
  have N3 : Hid (A.relocs.length = B.relocs.length) := Lib.hid (by have t := g4; simp at t; omega)
  have E0 : Hid ((A.entry == B.entry) = true) := Lib.hid (by simpa using g0)
  have E1 : Hid ((A.vector == B.vector) = true) := Lib.hid (by simpa using g1)
  go_enter Try.func36, Try.ntmps36
  go_wp2_with fail
  clear g0 g1 g2 g3 g4 e0 e1 e2 e3 e4 d0 d1 d2 d3 d4
  generalize (w.alloc (Obj.cells #[.slice p1 A.banks.length p1c, .int .u16 A.entry, .int .u16 A.vector, .slice p2 A.data.length p2c, .slice p3 A.relocs.length p3c] 30)).alloc (Obj.cells #[.slice q1 B.banks.length q1c, .int .u16 B.entry, .int .u16 B.vector, .slice q2 B.data.length q2c, .slice q3 B.relocs.length q3c] 30) = W0 at *
  go_loopw [5] (fun i wr0 => ∃ k : Nat, k ≤ A.banks.length ∧ i = .int .i64 k ∧ Below W0.heap.size W0 wr0 ∧ sameL A.banks B.banks = sameL (A.banks.drop k) (B.banks.drop k)) (fun i _ => A.banks.length - (intOf i).toNat)
  case atStart => exact ⟨0, Nat.zero_le _, rfl, Below.refl _ _, rfl⟩
  case round =>
    obtain ⟨wr0, rfl⟩ : ∃ wq : World, wq = wr := ⟨_, rfl⟩
    obtain ⟨k, hk, rfl, hBw, hf⟩ := hrel
    have HF := Lib.hid hf
    have HB0 := Lib.hid hBw
    clear hf hBw
    obtain ⟨⟨e0, e1, e2, e3, e4⟩, d0, d1, d2, d3, d4⟩ := KF.out _ HB0.out
    by_cases hlt : k < A.banks.length
    · have hlt2 : k < B.banks.length := by have := N1.out; omega
      obtain ⟨x, hx⟩ := at_some A.banks k hlt
      obtain ⟨y, hy⟩ := at_some B.banks k hlt2
      obtain ⟨B1, rfl, hB1, x0, okx⟩ := (HA.out.kept HB0.out).banks k x hx
      obtain ⟨B2, rfl, hB2, y0, oky⟩ := (HB.out.kept HB0.out).banks k y hy
      have KC : Hid (∀ V, Below wr0.heap.size wr0 V → (V.cell? ⟨B1, k, none⟩ = some (.string x)) ∧ (V.cell? ⟨B2, k, none⟩ = some (.string y))) := fun V hb => ⟨(hb.cell hB1).trans x0, (hb.cell hB2).trans y0⟩
      have HX := Lib.hid hx
      have HY := Lib.hid hy
      clear hx hy okx oky x0 y0
      have hcmp : (x = y ∧ (x.toList == y.toList) = true) ∨ (x ≠ y ∧ (x.toList == y.toList) = false) := by
        by_cases hxy : x = y
        · exact .inl ⟨hxy, by rw [hxy]; simp⟩
        · refine .inr ⟨hxy, ?_⟩
          simp only [beq_eq_false_iff_ne, ne_eq]
          exact fun e => hxy (by cases x; cases y; simp_all [ByteArray.toList_eq])
      rcases hcmp with ⟨hxy, h0⟩ | ⟨hxy, h0⟩
      · have HS := Lib.hid (sameL_step k HX.out HY.out hxy)
        clear hxy
        go_wp2_with fail
        clear e0 e1 e2 e3 e4 d0 d1 d2 d3 d4
        refine wp_region_flow (S := fun V => Below wr0.heap.size wr0 V) (by kernel_rfl) (by kernel_rfl) (Below.drew (Below.refl _ _)) ?_
        refine Flow.step ?_ (fun V K hS hK => ?_) ?_
        rotate_left
        · go_simp
          exact hK _ hS
        simp only [Act.put, List.setIfInBounds_toArray, List.set_cons_zero, List.set_cons_succ]
        refine Flow.step ?_ (fun V K hS hK => ?_) ?_
        rotate_left
        · obtain ⟨⟨e0, e1, e2, e3, e4⟩, _⟩ := KF.out _ (below_next HB0.out hS)
          go_simp
          exact hK _ hS
        simp only [Act.put, List.setIfInBounds_toArray, List.set_cons_zero, List.set_cons_succ]
        refine Flow.step ?_ (fun V K hS hK => ?_) ?_
        rotate_left
        · go_simp
          exact hK _ hS
        simp only [Act.put, List.setIfInBounds_toArray, List.set_cons_zero, List.set_cons_succ]
        refine Flow.step ?_ (fun V K hS hK => ?_) ?_
        rotate_left
        · go_simp
          exact hK _ hS
        simp only [Act.put, List.setIfInBounds_toArray, List.set_cons_zero, List.set_cons_succ]
        refine Flow.step ?_ (fun V K hS hK => ?_) ?_
        rotate_left
        · obtain ⟨c0, _⟩ := KC.out V hS
          go_simp
          exact hK _ hS
        simp only [Act.put, List.setIfInBounds_toArray, List.set_cons_zero, List.set_cons_succ]
        refine Flow.step ?_ (fun V K hS hK => ?_) ?_
        rotate_left
        · go_simp
          exact hK _ hS
        simp only [Act.put, List.setIfInBounds_toArray, List.set_cons_zero, List.set_cons_succ]
        refine Flow.step ?_ (fun V K hS hK => ?_) ?_
        rotate_left
        · obtain ⟨_, d0, d1, d2, d3, d4⟩ := KF.out _ (below_next HB0.out hS)
          go_simp
          exact hK _ hS
        simp only [Act.put, List.setIfInBounds_toArray, List.set_cons_zero, List.set_cons_succ]
        refine Flow.step ?_ (fun V K hS hK => ?_) ?_
        rotate_left
        · go_simp
          exact hK _ hS
        simp only [Act.put, List.setIfInBounds_toArray, List.set_cons_zero, List.set_cons_succ]
        refine Flow.step ?_ (fun V K hS hK => ?_) ?_
        rotate_left
        · go_simp
          exact hK _ hS
        simp only [Act.put, List.setIfInBounds_toArray, List.set_cons_zero, List.set_cons_succ]
        refine Flow.step ?_ (fun V K hS hK => ?_) ?_
        rotate_left
        · obtain ⟨_, c0⟩ := KC.out V hS
          go_simp
          exact hK _ hS
        simp only [Act.put, List.setIfInBounds_toArray, List.set_cons_zero, List.set_cons_succ]
        refine Flow.step ?_ (fun V K hS hK => ?_) ?_
        rotate_left
        · go_simp
          exact hK _ hS
        simp only [Act.put, List.setIfInBounds_toArray, List.set_cons_zero, List.set_cons_succ]
        refine Flow.done fun V hS => ?_
        have HV := Lib.hid (below_next HB0.out hS)
        clear hS
        go_wp2_with fail
        go_roundw
        case rel => exact ⟨k + 1, by omega, by go_num, HV.out, by rw [HF.out, HS.out]⟩
        case measure => simp [intOf]; omega
      · have HS := Lib.hid (sameL_hit k HX.out HY.out hxy)
        clear hxy
        go_wp2_with fail
        clear e0 e1 e2 e3 e4 d0 d1 d2 d3 d4
        refine wp_region_flow (S := fun V => Below wr0.heap.size wr0 V) (by kernel_rfl) (by kernel_rfl) (Below.drew (Below.refl _ _)) ?_
        refine Flow.step ?_ (fun V K hS hK => ?_) ?_
        rotate_left
        · go_simp
          exact hK _ hS
        simp only [Act.put, List.setIfInBounds_toArray, List.set_cons_zero, List.set_cons_succ]
        refine Flow.step ?_ (fun V K hS hK => ?_) ?_
        rotate_left
        · obtain ⟨⟨e0, e1, e2, e3, e4⟩, _⟩ := KF.out _ (below_next HB0.out hS)
          go_simp
          exact hK _ hS
        simp only [Act.put, List.setIfInBounds_toArray, List.set_cons_zero, List.set_cons_succ]
        refine Flow.step ?_ (fun V K hS hK => ?_) ?_
        rotate_left
        · go_simp
          exact hK _ hS
        simp only [Act.put, List.setIfInBounds_toArray, List.set_cons_zero, List.set_cons_succ]
        refine Flow.step ?_ (fun V K hS hK => ?_) ?_
        rotate_left
        · go_simp
          exact hK _ hS
        simp only [Act.put, List.setIfInBounds_toArray, List.set_cons_zero, List.set_cons_succ]
        refine Flow.step ?_ (fun V K hS hK => ?_) ?_
        rotate_left
        · obtain ⟨c0, _⟩ := KC.out V hS
          go_simp
          exact hK _ hS
        simp only [Act.put, List.setIfInBounds_toArray, List.set_cons_zero, List.set_cons_succ]
        refine Flow.step ?_ (fun V K hS hK => ?_) ?_
        rotate_left
        · go_simp
          exact hK _ hS
        simp only [Act.put, List.setIfInBounds_toArray, List.set_cons_zero, List.set_cons_succ]
        refine Flow.step ?_ (fun V K hS hK => ?_) ?_
        rotate_left
        · obtain ⟨_, d0, d1, d2, d3, d4⟩ := KF.out _ (below_next HB0.out hS)
          go_simp
          exact hK _ hS
        simp only [Act.put, List.setIfInBounds_toArray, List.set_cons_zero, List.set_cons_succ]
        refine Flow.step ?_ (fun V K hS hK => ?_) ?_
        rotate_left
        · go_simp
          exact hK _ hS
        simp only [Act.put, List.setIfInBounds_toArray, List.set_cons_zero, List.set_cons_succ]
        refine Flow.step ?_ (fun V K hS hK => ?_) ?_
        rotate_left
        · go_simp
          exact hK _ hS
        simp only [Act.put, List.setIfInBounds_toArray, List.set_cons_zero, List.set_cons_succ]
        refine Flow.step ?_ (fun V K hS hK => ?_) ?_
        rotate_left
        · obtain ⟨_, c0⟩ := KC.out V hS
          go_simp
          exact hK _ hS
        simp only [Act.put, List.setIfInBounds_toArray, List.set_cons_zero, List.set_cons_succ]
        refine Flow.step ?_ (fun V K hS hK => ?_) ?_
        rotate_left
        · go_simp
          exact hK _ hS
        simp only [Act.put, List.setIfInBounds_toArray, List.set_cons_zero, List.set_cons_succ]
        refine Flow.done fun V hS => ?_
        have HV := Lib.hid (below_next HB0.out hS)
        clear hS
        go_wp2_with fail
        have HR : Hid (sameI A B = false) := Lib.hid (by unfold sameI; rw [HS.out]; simp)
        go_ret
        exact ⟨by rw [HR.out]; rfl, below_next HW.out HV.out⟩
    have T0 : Hid (sameL A.banks B.banks = true) := Lib.hid (by rw [HF.out]; have : k = A.banks.length := (by omega); subst this; exact sameL_end N1.out)
    obtain rfl : k = A.banks.length := by omega
    clear HF
    go_wp2_with fail
    clear e0 e1 e2 e3 e4 d0 d1 d2 d3 d4
    go_loopw [6] (fun i wr1 => ∃ k : Nat, k ≤ A.data.length ∧ i = .int .i64 k ∧ Below W0.heap.size W0 wr1 ∧ sameL A.data B.data = sameL (A.data.drop k) (B.data.drop k)) (fun i _ => A.data.length - (intOf i).toNat)
    case atStart => exact ⟨0, Nat.zero_le _, rfl, HB0.out, rfl⟩
    case round =>
      obtain ⟨wr1, rfl⟩ : ∃ wq : World, wq = wr := ⟨_, rfl⟩
      obtain ⟨k, hk, rfl, hBw, hf⟩ := hrel
      have HF := Lib.hid hf
      have HB1 := Lib.hid hBw
      clear hf hBw
      obtain ⟨⟨e0, e1, e2, e3, e4⟩, d0, d1, d2, d3, d4⟩ := KF.out _ HB1.out
      by_cases hlt : k < A.data.length
      · have hlt2 : k < B.data.length := by have := N2.out; omega
        obtain ⟨x, hx⟩ := at_some A.data k hlt
        obtain ⟨y, hy⟩ := at_some B.data k hlt2
        obtain ⟨B1, rfl, hB1, x0, x1, x2, okx⟩ := (HA.out.kept HB1.out).data k x hx
        obtain ⟨B2, rfl, hB2, y0, y1, y2, oky⟩ := (HB.out.kept HB1.out).data k y hy
        have KC : Hid (∀ V, Below wr1.heap.size wr1 V → (V.cell? ⟨B1, k * 3, none⟩ = some (.int .i64 x.bank) ∧ V.cell? ⟨B1, k * 3 + 1, none⟩ = some (.int .u16 x.addr) ∧ V.cell? ⟨B1, k * 3 + 2, none⟩ = some (.int .u16 x.size)) ∧ (V.cell? ⟨B2, k * 3, none⟩ = some (.int .i64 y.bank) ∧ V.cell? ⟨B2, k * 3 + 1, none⟩ = some (.int .u16 y.addr) ∧ V.cell? ⟨B2, k * 3 + 2, none⟩ = some (.int .u16 y.size))) := fun V hb => ⟨⟨(hb.cell hB1).trans x0, (hb.cell hB1).trans x1, (hb.cell hB1).trans x2⟩, ⟨(hb.cell hB2).trans y0, (hb.cell hB2).trans y1, (hb.cell hB2).trans y2⟩⟩
        have HX := Lib.hid hx
        have HY := Lib.hid hy
        clear hx hy okx oky x0 x1 x2 y0 y1 y2
        have hcmp : (x = y ∧ (x.bank == y.bank) = true ∧ (x.addr == y.addr) = true ∧ (x.size == y.size) = true) ∨ (x ≠ y ∧ (x.bank == y.bank) = false) ∨ (x ≠ y ∧ (x.bank == y.bank) = true ∧ (x.addr == y.addr) = false) ∨ (x ≠ y ∧ (x.bank == y.bank) = true ∧ (x.addr == y.addr) = true ∧ (x.size == y.size) = false) := by
          by_cases hxy : x = y
          · left; subst hxy; simp
          · right
            have hne := hxy
            cases x; cases y; simp at hxy hne ⊢
            omega
        rcases hcmp with ⟨hxy, h0, h1, h2⟩ | ⟨hxy, h0⟩ | ⟨hxy, h0, h1⟩ | ⟨hxy, h0, h1, h2⟩
        · have HS := Lib.hid (sameL_step k HX.out HY.out hxy)
          clear hxy
          go_wp2_with fail
          clear e0 e1 e2 e3 e4 d0 d1 d2 d3 d4
          refine wp_region_flow (S := fun V => Below wr1.heap.size wr1 V) (by kernel_rfl) (by kernel_rfl) (Below.drew (Below.refl _ _)) ?_
          refine Flow.step ?_ (fun V K hS hK => ?_) ?_
          rotate_left
          · go_simp
            exact hK _ hS
          simp only [Act.put, List.setIfInBounds_toArray, List.set_cons_zero, List.set_cons_succ]
          refine Flow.step ?_ (fun V K hS hK => ?_) ?_
          rotate_left
          · obtain ⟨⟨e0, e1, e2, e3, e4⟩, _⟩ := KF.out _ (below_next HB1.out hS)
            go_simp
            exact hK _ hS
          simp only [Act.put, List.setIfInBounds_toArray, List.set_cons_zero, List.set_cons_succ]
          refine Flow.step ?_ (fun V K hS hK => ?_) ?_
          rotate_left
          · go_simp
            exact hK _ hS
          simp only [Act.put, List.setIfInBounds_toArray, List.set_cons_zero, List.set_cons_succ]
          refine Flow.step ?_ (fun V K hS hK => ?_) ?_
          rotate_left
          · go_simp
            exact hK _ hS
          simp only [Act.put, List.setIfInBounds_toArray, List.set_cons_zero, List.set_cons_succ]
          refine Flow.step ?_ (fun V K hS hK => ?_) ?_
          rotate_left
          · obtain ⟨⟨c0, c1, c2⟩, _⟩ := KC.out V hS
            go_simp
            exact hK _ hS
          simp only [Act.put, List.setIfInBounds_toArray, List.set_cons_zero, List.set_cons_succ]
          refine Flow.step ?_ (fun V K hS hK => ?_) ?_
          rotate_left
          · go_simp
            exact hK _ hS
          simp only [Act.put, List.setIfInBounds_toArray, List.set_cons_zero, List.set_cons_succ]
          refine Flow.step ?_ (fun V K hS hK => ?_) ?_
          rotate_left
          · obtain ⟨_, d0, d1, d2, d3, d4⟩ := KF.out _ (below_next HB1.out hS)
            go_simp
            exact hK _ hS
          simp only [Act.put, List.setIfInBounds_toArray, List.set_cons_zero, List.set_cons_succ]
          refine Flow.step ?_ (fun V K hS hK => ?_) ?_
          rotate_left
          · go_simp
            exact hK _ hS
          simp only [Act.put, List.setIfInBounds_toArray, List.set_cons_zero, List.set_cons_succ]
          refine Flow.step ?_ (fun V K hS hK => ?_) ?_
          rotate_left
          · go_simp
            exact hK _ hS
          simp only [Act.put, List.setIfInBounds_toArray, List.set_cons_zero, List.set_cons_succ]
          refine Flow.step ?_ (fun V K hS hK => ?_) ?_
          rotate_left
          · obtain ⟨_, c0, c1, c2⟩ := KC.out V hS
            go_simp
            exact hK _ hS
          simp only [Act.put, List.setIfInBounds_toArray, List.set_cons_zero, List.set_cons_succ]
          refine Flow.step ?_ (fun V K hS hK => ?_) ?_
          rotate_left
          · go_simp
            exact hK _ hS
          simp only [Act.put, List.setIfInBounds_toArray, List.set_cons_zero, List.set_cons_succ]
          refine Flow.done fun V hS => ?_
          have HV := Lib.hid (below_next HB1.out hS)
          clear hS
          go_wp2_with fail
          go_roundw
          case rel => exact ⟨k + 1, by omega, by go_num, HV.out, by rw [HF.out, HS.out]⟩
          case measure => simp [intOf]; omega
        · have HS := Lib.hid (sameL_hit k HX.out HY.out hxy)
          clear hxy
          go_wp2_with fail
          clear e0 e1 e2 e3 e4 d0 d1 d2 d3 d4
          refine wp_region_flow (S := fun V => Below wr1.heap.size wr1 V) (by kernel_rfl) (by kernel_rfl) (Below.drew (Below.refl _ _)) ?_
          refine Flow.step ?_ (fun V K hS hK => ?_) ?_
          rotate_left
          · go_simp
            exact hK _ hS
          simp only [Act.put, List.setIfInBounds_toArray, List.set_cons_zero, List.set_cons_succ]
          refine Flow.step ?_ (fun V K hS hK => ?_) ?_
          rotate_left
          · obtain ⟨⟨e0, e1, e2, e3, e4⟩, _⟩ := KF.out _ (below_next HB1.out hS)
            go_simp
            exact hK _ hS
          simp only [Act.put, List.setIfInBounds_toArray, List.set_cons_zero, List.set_cons_succ]
          refine Flow.step ?_ (fun V K hS hK => ?_) ?_
          rotate_left
          · go_simp
            exact hK _ hS
          simp only [Act.put, List.setIfInBounds_toArray, List.set_cons_zero, List.set_cons_succ]
          refine Flow.step ?_ (fun V K hS hK => ?_) ?_
          rotate_left
          · go_simp
            exact hK _ hS
          simp only [Act.put, List.setIfInBounds_toArray, List.set_cons_zero, List.set_cons_succ]
          refine Flow.step ?_ (fun V K hS hK => ?_) ?_
          rotate_left
          · obtain ⟨⟨c0, c1, c2⟩, _⟩ := KC.out V hS
            go_simp
            exact hK _ hS
          simp only [Act.put, List.setIfInBounds_toArray, List.set_cons_zero, List.set_cons_succ]
          refine Flow.step ?_ (fun V K hS hK => ?_) ?_
          rotate_left
          · go_simp
            exact hK _ hS
          simp only [Act.put, List.setIfInBounds_toArray, List.set_cons_zero, List.set_cons_succ]
          refine Flow.step ?_ (fun V K hS hK => ?_) ?_
          rotate_left
          · obtain ⟨_, d0, d1, d2, d3, d4⟩ := KF.out _ (below_next HB1.out hS)
            go_simp
            exact hK _ hS
          simp only [Act.put, List.setIfInBounds_toArray, List.set_cons_zero, List.set_cons_succ]
          refine Flow.step ?_ (fun V K hS hK => ?_) ?_
          rotate_left
          · go_simp
            exact hK _ hS
          simp only [Act.put, List.setIfInBounds_toArray, List.set_cons_zero, List.set_cons_succ]
          refine Flow.step ?_ (fun V K hS hK => ?_) ?_
          rotate_left
          · go_simp
            exact hK _ hS
          simp only [Act.put, List.setIfInBounds_toArray, List.set_cons_zero, List.set_cons_succ]
          refine Flow.step ?_ (fun V K hS hK => ?_) ?_
          rotate_left
          · obtain ⟨_, c0, c1, c2⟩ := KC.out V hS
            go_simp
            exact hK _ hS
          simp only [Act.put, List.setIfInBounds_toArray, List.set_cons_zero, List.set_cons_succ]
          refine Flow.step ?_ (fun V K hS hK => ?_) ?_
          rotate_left
          · go_simp
            exact hK _ hS
          simp only [Act.put, List.setIfInBounds_toArray, List.set_cons_zero, List.set_cons_succ]
          refine Flow.done fun V hS => ?_
          have HV := Lib.hid (below_next HB1.out hS)
          clear hS
          go_wp2_with fail
          have HR : Hid (sameI A B = false) := Lib.hid (by unfold sameI; rw [HS.out]; simp)
          go_ret
          exact ⟨by rw [HR.out]; rfl, below_next HW.out HV.out⟩
        · have HS := Lib.hid (sameL_hit k HX.out HY.out hxy)
          clear hxy
          go_wp2_with fail
          clear e0 e1 e2 e3 e4 d0 d1 d2 d3 d4
          refine wp_region_flow (S := fun V => Below wr1.heap.size wr1 V) (by kernel_rfl) (by kernel_rfl) (Below.drew (Below.refl _ _)) ?_
          refine Flow.step ?_ (fun V K hS hK => ?_) ?_
          rotate_left
          · go_simp
            exact hK _ hS
          simp only [Act.put, List.setIfInBounds_toArray, List.set_cons_zero, List.set_cons_succ]
          refine Flow.step ?_ (fun V K hS hK => ?_) ?_
          rotate_left
          · obtain ⟨⟨e0, e1, e2, e3, e4⟩, _⟩ := KF.out _ (below_next HB1.out hS)
            go_simp
            exact hK _ hS
          simp only [Act.put, List.setIfInBounds_toArray, List.set_cons_zero, List.set_cons_succ]
          refine Flow.step ?_ (fun V K hS hK => ?_) ?_
          rotate_left
          · go_simp
            exact hK _ hS
          simp only [Act.put, List.setIfInBounds_toArray, List.set_cons_zero, List.set_cons_succ]
          refine Flow.step ?_ (fun V K hS hK => ?_) ?_
          rotate_left
          · go_simp
            exact hK _ hS
          simp only [Act.put, List.setIfInBounds_toArray, List.set_cons_zero, List.set_cons_succ]
          refine Flow.step ?_ (fun V K hS hK => ?_) ?_
          rotate_left
          · obtain ⟨⟨c0, c1, c2⟩, _⟩ := KC.out V hS
            go_simp
            exact hK _ hS
          simp only [Act.put, List.setIfInBounds_toArray, List.set_cons_zero, List.set_cons_succ]
          refine Flow.step ?_ (fun V K hS hK => ?_) ?_
          rotate_left
          · go_simp
            exact hK _ hS
          simp only [Act.put, List.setIfInBounds_toArray, List.set_cons_zero, List.set_cons_succ]
          refine Flow.step ?_ (fun V K hS hK => ?_) ?_
          rotate_left
          · obtain ⟨_, d0, d1, d2, d3, d4⟩ := KF.out _ (below_next HB1.out hS)
            go_simp
            exact hK _ hS
          simp only [Act.put, List.setIfInBounds_toArray, List.set_cons_zero, List.set_cons_succ]
          refine Flow.step ?_ (fun V K hS hK => ?_) ?_
          rotate_left
          · go_simp
            exact hK _ hS
          simp only [Act.put, List.setIfInBounds_toArray, List.set_cons_zero, List.set_cons_succ]
          refine Flow.step ?_ (fun V K hS hK => ?_) ?_
          rotate_left
          · go_simp
            exact hK _ hS
          simp only [Act.put, List.setIfInBounds_toArray, List.set_cons_zero, List.set_cons_succ]
          refine Flow.step ?_ (fun V K hS hK => ?_) ?_
          rotate_left
          · obtain ⟨_, c0, c1, c2⟩ := KC.out V hS
            go_simp
            exact hK _ hS
          simp only [Act.put, List.setIfInBounds_toArray, List.set_cons_zero, List.set_cons_succ]
          refine Flow.step ?_ (fun V K hS hK => ?_) ?_
          rotate_left
          · go_simp
            exact hK _ hS
          simp only [Act.put, List.setIfInBounds_toArray, List.set_cons_zero, List.set_cons_succ]
          refine Flow.done fun V hS => ?_
          have HV := Lib.hid (below_next HB1.out hS)
          clear hS
          go_wp2_with fail
          have HR : Hid (sameI A B = false) := Lib.hid (by unfold sameI; rw [HS.out]; simp)
          go_ret
          exact ⟨by rw [HR.out]; rfl, below_next HW.out HV.out⟩
        · have HS := Lib.hid (sameL_hit k HX.out HY.out hxy)
          clear hxy
          go_wp2_with fail
          clear e0 e1 e2 e3 e4 d0 d1 d2 d3 d4
          refine wp_region_flow (S := fun V => Below wr1.heap.size wr1 V) (by kernel_rfl) (by kernel_rfl) (Below.drew (Below.refl _ _)) ?_
          refine Flow.step ?_ (fun V K hS hK => ?_) ?_
          rotate_left
          · go_simp
            exact hK _ hS
          simp only [Act.put, List.setIfInBounds_toArray, List.set_cons_zero, List.set_cons_succ]
          refine Flow.step ?_ (fun V K hS hK => ?_) ?_
          rotate_left
          · obtain ⟨⟨e0, e1, e2, e3, e4⟩, _⟩ := KF.out _ (below_next HB1.out hS)
            go_simp
            exact hK _ hS
          simp only [Act.put, List.setIfInBounds_toArray, List.set_cons_zero, List.set_cons_succ]
          refine Flow.step ?_ (fun V K hS hK => ?_) ?_
          rotate_left
          · go_simp
            exact hK _ hS
          simp only [Act.put, List.setIfInBounds_toArray, List.set_cons_zero, List.set_cons_succ]
          refine Flow.step ?_ (fun V K hS hK => ?_) ?_
          rotate_left
          · go_simp
            exact hK _ hS
          simp only [Act.put, List.setIfInBounds_toArray, List.set_cons_zero, List.set_cons_succ]
          refine Flow.step ?_ (fun V K hS hK => ?_) ?_
          rotate_left
          · obtain ⟨⟨c0, c1, c2⟩, _⟩ := KC.out V hS
            go_simp
            exact hK _ hS
          simp only [Act.put, List.setIfInBounds_toArray, List.set_cons_zero, List.set_cons_succ]
          refine Flow.step ?_ (fun V K hS hK => ?_) ?_
          rotate_left
          · go_simp
            exact hK _ hS
          simp only [Act.put, List.setIfInBounds_toArray, List.set_cons_zero, List.set_cons_succ]
          refine Flow.step ?_ (fun V K hS hK => ?_) ?_
          rotate_left
          · obtain ⟨_, d0, d1, d2, d3, d4⟩ := KF.out _ (below_next HB1.out hS)
            go_simp
            exact hK _ hS
          simp only [Act.put, List.setIfInBounds_toArray, List.set_cons_zero, List.set_cons_succ]
          refine Flow.step ?_ (fun V K hS hK => ?_) ?_
          rotate_left
          · go_simp
            exact hK _ hS
          simp only [Act.put, List.setIfInBounds_toArray, List.set_cons_zero, List.set_cons_succ]
          refine Flow.step ?_ (fun V K hS hK => ?_) ?_
          rotate_left
          · go_simp
            exact hK _ hS
          simp only [Act.put, List.setIfInBounds_toArray, List.set_cons_zero, List.set_cons_succ]
          refine Flow.step ?_ (fun V K hS hK => ?_) ?_
          rotate_left
          · obtain ⟨_, c0, c1, c2⟩ := KC.out V hS
            go_simp
            exact hK _ hS
          simp only [Act.put, List.setIfInBounds_toArray, List.set_cons_zero, List.set_cons_succ]
          refine Flow.step ?_ (fun V K hS hK => ?_) ?_
          rotate_left
          · go_simp
            exact hK _ hS
          simp only [Act.put, List.setIfInBounds_toArray, List.set_cons_zero, List.set_cons_succ]
          refine Flow.done fun V hS => ?_
          have HV := Lib.hid (below_next HB1.out hS)
          clear hS
          go_wp2_with fail
          have HR : Hid (sameI A B = false) := Lib.hid (by unfold sameI; rw [HS.out]; simp)
          go_ret
          exact ⟨by rw [HR.out]; rfl, below_next HW.out HV.out⟩
      have T1 : Hid (sameL A.data B.data = true) := Lib.hid (by rw [HF.out]; have : k = A.data.length := (by omega); subst this; exact sameL_end N2.out)
      obtain rfl : k = A.data.length := by omega
      clear HF
      go_wp2_with fail
      clear e0 e1 e2 e3 e4 d0 d1 d2 d3 d4
      go_loopw [7] (fun i wr2 => ∃ k : Nat, k ≤ A.relocs.length ∧ i = .int .i64 k ∧ Below W0.heap.size W0 wr2 ∧ sameL A.relocs B.relocs = sameL (A.relocs.drop k) (B.relocs.drop k)) (fun i _ => A.relocs.length - (intOf i).toNat)
      case atStart => exact ⟨0, Nat.zero_le _, rfl, HB1.out, rfl⟩
      case round =>
        obtain ⟨wr2, rfl⟩ : ∃ wq : World, wq = wr := ⟨_, rfl⟩
        obtain ⟨k, hk, rfl, hBw, hf⟩ := hrel
        have HF := Lib.hid hf
        have HB2 := Lib.hid hBw
        clear hf hBw
        obtain ⟨⟨e0, e1, e2, e3, e4⟩, d0, d1, d2, d3, d4⟩ := KF.out _ HB2.out
        by_cases hlt : k < A.relocs.length
        · have hlt2 : k < B.relocs.length := by have := N3.out; omega
          obtain ⟨x, hx⟩ := at_some A.relocs k hlt
          obtain ⟨y, hy⟩ := at_some B.relocs k hlt2
          obtain ⟨B1, rfl, hB1, x0, x1, okx⟩ := (HA.out.kept HB2.out).relocs k x hx
          obtain ⟨B2, rfl, hB2, y0, y1, oky⟩ := (HB.out.kept HB2.out).relocs k y hy
          have KC : Hid (∀ V, Below wr2.heap.size wr2 V → (V.cell? ⟨B1, k * 2, none⟩ = some (.int .i64 x.bank) ∧ V.cell? ⟨B1, k * 2 + 1, none⟩ = some (.int .u16 x.off)) ∧ (V.cell? ⟨B2, k * 2, none⟩ = some (.int .i64 y.bank) ∧ V.cell? ⟨B2, k * 2 + 1, none⟩ = some (.int .u16 y.off))) := fun V hb => ⟨⟨(hb.cell hB1).trans x0, (hb.cell hB1).trans x1⟩, ⟨(hb.cell hB2).trans y0, (hb.cell hB2).trans y1⟩⟩
          have HX := Lib.hid hx
          have HY := Lib.hid hy
          clear hx hy okx oky x0 x1 y0 y1
          have hcmp : (x = y ∧ (x.bank == y.bank) = true ∧ (x.off == y.off) = true) ∨ (x ≠ y ∧ (x.bank == y.bank) = false) ∨ (x ≠ y ∧ (x.bank == y.bank) = true ∧ (x.off == y.off) = false) := by
            by_cases hxy : x = y
            · left; subst hxy; simp
            · right
              have hne := hxy
              cases x; cases y; simp at hxy hne ⊢
              omega
          rcases hcmp with ⟨hxy, h0, h1⟩ | ⟨hxy, h0⟩ | ⟨hxy, h0, h1⟩
          · have HS := Lib.hid (sameL_step k HX.out HY.out hxy)
            clear hxy
            go_wp2_with fail
            clear e0 e1 e2 e3 e4 d0 d1 d2 d3 d4
            refine wp_region_flow (S := fun V => Below wr2.heap.size wr2 V) (by kernel_rfl) (by kernel_rfl) (Below.drew (Below.refl _ _)) ?_
            refine Flow.step ?_ (fun V K hS hK => ?_) ?_
            rotate_left
            · go_simp
              exact hK _ hS
            simp only [Act.put, List.setIfInBounds_toArray, List.set_cons_zero, List.set_cons_succ]
            refine Flow.step ?_ (fun V K hS hK => ?_) ?_
            rotate_left
            · obtain ⟨⟨e0, e1, e2, e3, e4⟩, _⟩ := KF.out _ (below_next HB2.out hS)
              go_simp
              exact hK _ hS
            simp only [Act.put, List.setIfInBounds_toArray, List.set_cons_zero, List.set_cons_succ]
            refine Flow.step ?_ (fun V K hS hK => ?_) ?_
            rotate_left
            · go_simp
              exact hK _ hS
            simp only [Act.put, List.setIfInBounds_toArray, List.set_cons_zero, List.set_cons_succ]
            refine Flow.step ?_ (fun V K hS hK => ?_) ?_
            rotate_left
            · go_simp
              exact hK _ hS
            simp only [Act.put, List.setIfInBounds_toArray, List.set_cons_zero, List.set_cons_succ]
            refine Flow.step ?_ (fun V K hS hK => ?_) ?_
            rotate_left
            · obtain ⟨⟨c0, c1⟩, _⟩ := KC.out V hS
              go_simp
              exact hK _ hS
            simp only [Act.put, List.setIfInBounds_toArray, List.set_cons_zero, List.set_cons_succ]
            refine Flow.step ?_ (fun V K hS hK => ?_) ?_
            rotate_left
            · go_simp
              exact hK _ hS
            simp only [Act.put, List.setIfInBounds_toArray, List.set_cons_zero, List.set_cons_succ]
            refine Flow.step ?_ (fun V K hS hK => ?_) ?_
            rotate_left
            · obtain ⟨_, d0, d1, d2, d3, d4⟩ := KF.out _ (below_next HB2.out hS)
              go_simp
              exact hK _ hS
            simp only [Act.put, List.setIfInBounds_toArray, List.set_cons_zero, List.set_cons_succ]
            refine Flow.step ?_ (fun V K hS hK => ?_) ?_
            rotate_left
            · go_simp
              exact hK _ hS
            simp only [Act.put, List.setIfInBounds_toArray, List.set_cons_zero, List.set_cons_succ]
            refine Flow.step ?_ (fun V K hS hK => ?_) ?_
            rotate_left
            · go_simp
              exact hK _ hS
            simp only [Act.put, List.setIfInBounds_toArray, List.set_cons_zero, List.set_cons_succ]
            refine Flow.step ?_ (fun V K hS hK => ?_) ?_
            rotate_left
            · obtain ⟨_, c0, c1⟩ := KC.out V hS
              go_simp
              exact hK _ hS
            simp only [Act.put, List.setIfInBounds_toArray, List.set_cons_zero, List.set_cons_succ]
            refine Flow.step ?_ (fun V K hS hK => ?_) ?_
            rotate_left
            · go_simp
              exact hK _ hS
            simp only [Act.put, List.setIfInBounds_toArray, List.set_cons_zero, List.set_cons_succ]
            refine Flow.done fun V hS => ?_
            have HV := Lib.hid (below_next HB2.out hS)
            clear hS
            go_wp2_with fail
            go_roundw
            case rel => exact ⟨k + 1, by omega, by go_num, HV.out, by rw [HF.out, HS.out]⟩
            case measure => simp [intOf]; omega
          · have HS := Lib.hid (sameL_hit k HX.out HY.out hxy)
            clear hxy
            go_wp2_with fail
            clear e0 e1 e2 e3 e4 d0 d1 d2 d3 d4
            refine wp_region_flow (S := fun V => Below wr2.heap.size wr2 V) (by kernel_rfl) (by kernel_rfl) (Below.drew (Below.refl _ _)) ?_
            refine Flow.step ?_ (fun V K hS hK => ?_) ?_
            rotate_left
            · go_simp
              exact hK _ hS
            simp only [Act.put, List.setIfInBounds_toArray, List.set_cons_zero, List.set_cons_succ]
            refine Flow.step ?_ (fun V K hS hK => ?_) ?_
            rotate_left
            · obtain ⟨⟨e0, e1, e2, e3, e4⟩, _⟩ := KF.out _ (below_next HB2.out hS)
              go_simp
              exact hK _ hS
            simp only [Act.put, List.setIfInBounds_toArray, List.set_cons_zero, List.set_cons_succ]
            refine Flow.step ?_ (fun V K hS hK => ?_) ?_
            rotate_left
            · go_simp
              exact hK _ hS
            simp only [Act.put, List.setIfInBounds_toArray, List.set_cons_zero, List.set_cons_succ]
            refine Flow.step ?_ (fun V K hS hK => ?_) ?_
            rotate_left
            · go_simp
              exact hK _ hS
            simp only [Act.put, List.setIfInBounds_toArray, List.set_cons_zero, List.set_cons_succ]
            refine Flow.step ?_ (fun V K hS hK => ?_) ?_
            rotate_left
            · obtain ⟨⟨c0, c1⟩, _⟩ := KC.out V hS
              go_simp
              exact hK _ hS
            simp only [Act.put, List.setIfInBounds_toArray, List.set_cons_zero, List.set_cons_succ]
            refine Flow.step ?_ (fun V K hS hK => ?_) ?_
            rotate_left
            · go_simp
              exact hK _ hS
            simp only [Act.put, List.setIfInBounds_toArray, List.set_cons_zero, List.set_cons_succ]
            refine Flow.step ?_ (fun V K hS hK => ?_) ?_
            rotate_left
            · obtain ⟨_, d0, d1, d2, d3, d4⟩ := KF.out _ (below_next HB2.out hS)
              go_simp
              exact hK _ hS
            simp only [Act.put, List.setIfInBounds_toArray, List.set_cons_zero, List.set_cons_succ]
            refine Flow.step ?_ (fun V K hS hK => ?_) ?_
            rotate_left
            · go_simp
              exact hK _ hS
            simp only [Act.put, List.setIfInBounds_toArray, List.set_cons_zero, List.set_cons_succ]
            refine Flow.step ?_ (fun V K hS hK => ?_) ?_
            rotate_left
            · go_simp
              exact hK _ hS
            simp only [Act.put, List.setIfInBounds_toArray, List.set_cons_zero, List.set_cons_succ]
            refine Flow.step ?_ (fun V K hS hK => ?_) ?_
            rotate_left
            · obtain ⟨_, c0, c1⟩ := KC.out V hS
              go_simp
              exact hK _ hS
            simp only [Act.put, List.setIfInBounds_toArray, List.set_cons_zero, List.set_cons_succ]
            refine Flow.step ?_ (fun V K hS hK => ?_) ?_
            rotate_left
            · go_simp
              exact hK _ hS
            simp only [Act.put, List.setIfInBounds_toArray, List.set_cons_zero, List.set_cons_succ]
            refine Flow.done fun V hS => ?_
            have HV := Lib.hid (below_next HB2.out hS)
            clear hS
            go_wp2_with fail
            have HR : Hid (sameI A B = false) := Lib.hid (by unfold sameI; rw [HS.out]; simp)
            go_ret
            exact ⟨by rw [HR.out]; rfl, below_next HW.out HV.out⟩
          · have HS := Lib.hid (sameL_hit k HX.out HY.out hxy)
            clear hxy
            go_wp2_with fail
            clear e0 e1 e2 e3 e4 d0 d1 d2 d3 d4
            refine wp_region_flow (S := fun V => Below wr2.heap.size wr2 V) (by kernel_rfl) (by kernel_rfl) (Below.drew (Below.refl _ _)) ?_
            refine Flow.step ?_ (fun V K hS hK => ?_) ?_
            rotate_left
            · go_simp
              exact hK _ hS
            simp only [Act.put, List.setIfInBounds_toArray, List.set_cons_zero, List.set_cons_succ]
            refine Flow.step ?_ (fun V K hS hK => ?_) ?_
            rotate_left
            · obtain ⟨⟨e0, e1, e2, e3, e4⟩, _⟩ := KF.out _ (below_next HB2.out hS)
              go_simp
              exact hK _ hS
            simp only [Act.put, List.setIfInBounds_toArray, List.set_cons_zero, List.set_cons_succ]
            refine Flow.step ?_ (fun V K hS hK => ?_) ?_
            rotate_left
            · go_simp
              exact hK _ hS
            simp only [Act.put, List.setIfInBounds_toArray, List.set_cons_zero, List.set_cons_succ]
            refine Flow.step ?_ (fun V K hS hK => ?_) ?_
            rotate_left
            · go_simp
              exact hK _ hS
            simp only [Act.put, List.setIfInBounds_toArray, List.set_cons_zero, List.set_cons_succ]
            refine Flow.step ?_ (fun V K hS hK => ?_) ?_
            rotate_left
            · obtain ⟨⟨c0, c1⟩, _⟩ := KC.out V hS
              go_simp
              exact hK _ hS
            simp only [Act.put, List.setIfInBounds_toArray, List.set_cons_zero, List.set_cons_succ]
            refine Flow.step ?_ (fun V K hS hK => ?_) ?_
            rotate_left
            · go_simp
              exact hK _ hS
            simp only [Act.put, List.setIfInBounds_toArray, List.set_cons_zero, List.set_cons_succ]
            refine Flow.step ?_ (fun V K hS hK => ?_) ?_
            rotate_left
            · obtain ⟨_, d0, d1, d2, d3, d4⟩ := KF.out _ (below_next HB2.out hS)
              go_simp
              exact hK _ hS
            simp only [Act.put, List.setIfInBounds_toArray, List.set_cons_zero, List.set_cons_succ]
            refine Flow.step ?_ (fun V K hS hK => ?_) ?_
            rotate_left
            · go_simp
              exact hK _ hS
            simp only [Act.put, List.setIfInBounds_toArray, List.set_cons_zero, List.set_cons_succ]
            refine Flow.step ?_ (fun V K hS hK => ?_) ?_
            rotate_left
            · go_simp
              exact hK _ hS
            simp only [Act.put, List.setIfInBounds_toArray, List.set_cons_zero, List.set_cons_succ]
            refine Flow.step ?_ (fun V K hS hK => ?_) ?_
            rotate_left
            · obtain ⟨_, c0, c1⟩ := KC.out V hS
              go_simp
              exact hK _ hS
            simp only [Act.put, List.setIfInBounds_toArray, List.set_cons_zero, List.set_cons_succ]
            refine Flow.step ?_ (fun V K hS hK => ?_) ?_
            rotate_left
            · go_simp
              exact hK _ hS
            simp only [Act.put, List.setIfInBounds_toArray, List.set_cons_zero, List.set_cons_succ]
            refine Flow.done fun V hS => ?_
            have HV := Lib.hid (below_next HB2.out hS)
            clear hS
            go_wp2_with fail
            have HR : Hid (sameI A B = false) := Lib.hid (by unfold sameI; rw [HS.out]; simp)
            go_ret
            exact ⟨by rw [HR.out]; rfl, below_next HW.out HV.out⟩
        have T2 : Hid (sameL A.relocs B.relocs = true) := Lib.hid (by rw [HF.out]; have : k = A.relocs.length := (by omega); subst this; exact sameL_end N3.out)
        obtain rfl : k = A.relocs.length := by omega
        clear HF
        go_wp2_with fail
        clear e0 e1 e2 e3 e4 d0 d1 d2 d3 d4
        have HR : Hid (sameI A B = true) := Lib.hid (by unfold sameI; rw [E0.out, E1.out, T0.out, T1.out, T2.out]; rfl)
        go_ret
        exact ⟨by rw [HR.out]; rfl, below_next HW.out HB2.out⟩
end Go.Proofs.Ytgdiaaoekkdibaa
