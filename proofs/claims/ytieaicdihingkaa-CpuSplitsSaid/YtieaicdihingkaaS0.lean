/- Equal: of words, of events. -/
import Derived.Test.YtieaicdihingkaaHK
namespace Go.Proofs.Ytieaicdihingkaa
set_option linter.unusedVariables false
set_option linter.unusedSimpArgs false
open Go.RowKit
theorem eq_of_at {α : Type} {l k : List α} {n : Nat} (hl : l.length = n) (hk : k.length = n) (h : ∀ i, i < n → l[i]? = k[i]?) : l = k := List.ext_getElem? fun i => by
 by_cases hi : i < n
 ·exact h i hi
 ·rw [List.getElem?_eq_none (by omega), List.getElem?_eq_none (by omega)]
set_option maxRecDepth 20000 in
set_option maxHeartbeats 4000000 in
theorem equal_words (p q : Option Addr) (c d : Nat) (l k : List Int) (b : Bool) (hbv : decide (l = k) = b) (w : World) (hl : SrcAt w p l.length (l.map (Value.int .u16))) (hk : SrcAt w q k.length (k.map (Value.int .u16))) (h9 : l.length ≤ 1000000000000) (h8 : k.length ≤ 1000000000000) :
  Calls Try.prog 42 #[.slice p l.length c, .slice q k.length d] w (EvPost w b) := by
 have HL := Lib.hid hl
 have HK := Lib.hid hk
 have HBV := Lib.hid hbv
 obtain ⟨n, hn⟩ : ∃ n, l.length = n := ⟨_, rfl⟩
 obtain ⟨n2, hn2⟩ : ∃ n2, k.length = n2 := ⟨_, rfl⟩
 have HN := Lib.hid hn
 have HN2 := Lib.hid hn2
 rw [hn] at h9 ⊢
 rw [hn2] at h8 ⊢
 have H9 := Lib.hid h9
 clear hl hk hbv hn hn2
 by_cases hlen : n = n2
 ·subst hlen
  clear h9 h8
  go_enter Try.func42, Try.ntmps42
  go_wp2_with fail
  go_loopw [13] (fun i_ wr => ∃ j : Nat, j ≤ n ∧ i_ = .int .i64 (j : Int) ∧ Below w.heap.size w wr ∧ ∀ i, i < j → l[i]? = k[i]?) (fun i_ _ => n - (intOf i_).toNat)
  case atStart => exact ⟨0, Nat.zero_le _, rfl, Below.refl _ _, fun i h => absurd h (Nat.not_lt_zero _)⟩
  case round =>
   obtain ⟨j, hj, rfl, hb, hp⟩ := hrel
   have HP := Lib.hid hp
   have HB := Lib.hid hb
   clear hp hb
   by_cases hlt : j < n
   ·have b0 : decide ((j : Int) < (n : Int)) = true := decide_eq_true (by omega)
    have b1 : decide (j < n) = true := decide_eq_true hlt
    have xw : IntKind.i64.wrap ((j : Int) + 1) = (j : Int) + 1 := IntWalk.i64_in _ (by have := H9.out; omega)
    have i0 : (0 : Int) ≤ (j : Int) := by omega
    have i1 : (j : Int) < (n : Int) := by omega
    have HLT := Lib.hid hlt
    obtain ⟨ga, hpa, hga, hca⟩ := HL.out.resolve_left (by rw [HN.out]; omega)
    obtain ⟨gb, hpb, hgb, hcb⟩ := HK.out.resolve_left (by rw [HN2.out]; omega)
    subst hpa hpb
    obtain ⟨x, hx⟩ := at_some l j (by rw [HN.out]; exact hlt)
    obtain ⟨y, hy⟩ := at_some k j (by rw [HN2.out]; exact hlt)
    have HX := Lib.hid hx
    have HY := Lib.hid hy
    have HQ : Hid (∀ W, Below w.heap.size w W → W.cell? ⟨ga, j, none⟩ = some (.int .u16 x) ∧ W.cell? ⟨gb, j, none⟩ = some (.int .u16 y)) := Lib.hid fun W hW => by
     exact ⟨(hW.cell (p := ⟨ga, j, none⟩) hga).trans (hca _ _ (by rw [List.getElem?_map, hx]; rfl)), (hW.cell (p := ⟨gb, j, none⟩) hgb).trans (hcb _ _ (by rw [List.getElem?_map, hy]; rfl))⟩
    clear hca hcb hga hgb hj hlt hx hy
    go_upto_region 6 with (fail)
    refine wp_region_flow (S := fun W => Below w.heap.size w W) (by kernel_rfl) (by kernel_rfl) (Below.drew HB.out) ?_
    iterate 3
     apply Flow.step
     ·intro V K hS hK
      go_simp
      exact hK _ hS
     simp only [lQ]
    apply Flow.step
    ·intro V K hS hK
     obtain ⟨lx, ly⟩ := HQ.out _ hS
     go_simp
     exact hK _ hS
    iterate 3
     simp only [lQ]
     apply Flow.step
     ·intro V K hS hK
      go_simp
      exact hK _ hS
    simp only [lQ]
    iterate 2
     apply Flow.step
     ·intro V K hS hK
      obtain ⟨lx, ly⟩ := HQ.out _ hS
      go_simp
      exact hK _ hS
     simp only [lQ]
    refine Flow.done ?_
    intro V hS
    have HB2 := Lib.hid hS
    clear hS
    by_cases hxy : x = y
    ·subst hxy
     go_wp2_with fail
     go_roundw
     case rel =>
      refine ⟨j + 1, by have := HLT.out; omega, by go_num, HB2.out, fun i hi => ?_⟩
      rcases Nat.lt_or_ge i j with h | h
      ·exact HP.out i h
      ·obtain rfl : i = j := by omega
       rw [HX.out, HY.out]
     case measure => have := HLT.out; simp only [intOf]; omega
    ·have d0 : (x == y) = false := by simpa using hxy
     have d1 : decide (x = y) = false := decide_eq_false hxy
     have hb9 : b = false := by
      rw [← HBV.out]
      refine decide_eq_false fun e => hxy ?_
      have h1 := HX.out
      rw [e, HY.out] at h1
      exact (Option.some.inj h1).symm
     subst hb9
     go_wp2_with fail
     exact bodyPost_ret (v := .bool false) (by simp [results, Try.results42, go_sem]) rfl ⟨rfl, HB2.out⟩
   ·obtain rfl : j = n := by omega
    have b0 : decide ((j : Int) < (j : Int)) = false := decide_eq_false (by omega)
    have b1 : decide (j < j) = false := decide_eq_false (by omega)
    have hb9 : b = true := by
     rw [← HBV.out]
     exact decide_eq_true (eq_of_at HN.out HN2.out HP.out)
    subst hb9
    clear hj hlt
    go_wp2_with fail
    exact bodyPost_ret (v := .bool true) (by simp [results, Try.results42, go_sem]) rfl ⟨rfl, HB.out⟩
 ·have e0 : ((n : Int) == (n2 : Int)) = false := by simp; omega
  have e1 : decide ((n : Int) = (n2 : Int)) = false := decide_eq_false (by omega)
  have e2 : ¬ (n : Int) = (n2 : Int) := by omega
  have e3 : decide (n = n2) = false := decide_eq_false (by omega)
  have hb9 : b = false := by
   rw [← HBV.out]
   exact decide_eq_false fun e => hlen (by rw [← HN.out, ← HN2.out, e])
  subst hb9
  clear h9 h8
  go_enter Try.func42, Try.ntmps42
  go_wp2_with fail
  exact bodyPost_ret (v := .bool false) (by simp [results, Try.results42, go_sem]) rfl ⟨rfl, Below.refl _ _⟩
set_option maxRecDepth 20000 in
set_option maxHeartbeats 4000000 in
theorem equal_events (p q : Option Addr) (c d : Nat) (l k : List (Int × Int)) (b : Bool) (hbv : decide (l = k) = b) (w : World) (hl : SrcAt w p l.length (outC l)) (hk : SrcAt w q k.length (outC k)) (h9 : l.length ≤ 1000000000000) (h8 : k.length ≤ 1000000000000) :
  Calls Try.prog 43 #[.slice p l.length c, .slice q k.length d] w (EvPost w b) := by
 have HL := Lib.hid hl
 have HK := Lib.hid hk
 have HBV := Lib.hid hbv
 obtain ⟨n, hn⟩ : ∃ n, l.length = n := ⟨_, rfl⟩
 obtain ⟨n2, hn2⟩ : ∃ n2, k.length = n2 := ⟨_, rfl⟩
 have HN := Lib.hid hn
 have HN2 := Lib.hid hn2
 rw [hn] at h9 ⊢
 rw [hn2] at h8 ⊢
 have H9 := Lib.hid h9
 clear hl hk hbv hn hn2
 by_cases hlen : n = n2
 ·subst hlen
  clear h9 h8
  go_enter Try.func43, Try.ntmps43
  go_wp2_with fail
  go_loopw [13] (fun i_ wr => ∃ j : Nat, j ≤ n ∧ i_ = .int .i64 (j : Int) ∧ Below w.heap.size w wr ∧ ∀ i, i < j → l[i]? = k[i]?) (fun i_ _ => n - (intOf i_).toNat)
  case atStart => exact ⟨0, Nat.zero_le _, rfl, Below.refl _ _, fun i h => absurd h (Nat.not_lt_zero _)⟩
  case round =>
   obtain ⟨j, hj, rfl, hb, hp⟩ := hrel
   have HP := Lib.hid hp
   have HB := Lib.hid hb
   clear hp hb
   by_cases hlt : j < n
   ·have b0 : decide ((j : Int) < (n : Int)) = true := decide_eq_true (by omega)
    have b1 : decide (j < n) = true := decide_eq_true hlt
    have xw : IntKind.i64.wrap ((j : Int) + 1) = (j : Int) + 1 := IntWalk.i64_in _ (by have := H9.out; omega)
    have i0 : (0 : Int) ≤ (j : Int) := by omega
    have i1 : (j : Int) < (n : Int) := by omega
    have HLT := Lib.hid hlt
    obtain ⟨ga, hpa, hga, hca⟩ := HL.out.resolve_left (by rw [HN.out]; omega)
    obtain ⟨gb, hpb, hgb, hcb⟩ := HK.out.resolve_left (by rw [HN2.out]; omega)
    subst hpa hpb
    obtain ⟨x, hx⟩ := at_some l j (by rw [HN.out]; exact hlt)
    obtain ⟨y, hy⟩ := at_some k j (by rw [HN2.out]; exact hlt)
    have HX := Lib.hid hx
    have HY := Lib.hid hy
    obtain ⟨x1, x2⟩ := x
    obtain ⟨y1, y2⟩ := y
    have hx2 := outC_at l j x1 x2 hx
    have hy2 := outC_at k j y1 y2 hy
    have HQ : Hid (∀ W, Below w.heap.size w W → (W.cell? ⟨ga, j * 2, none⟩ = some (.int .u16 x1) ∧ W.cell? ⟨ga, j * 2 + 1, none⟩ = some (.int .u16 x2)) ∧ W.cell? ⟨gb, j * 2, none⟩ = some (.int .u16 y1) ∧ W.cell? ⟨gb, j * 2 + 1, none⟩ = some (.int .u16 y2)) := Lib.hid fun W hW =>
     ⟨⟨(hW.cell (p := ⟨ga, j * 2, none⟩) hga).trans (hca _ _ hx2.1), (hW.cell (p := ⟨ga, j * 2 + 1, none⟩) hga).trans (hca _ _ hx2.2)⟩, (hW.cell (p := ⟨gb, j * 2, none⟩) hgb).trans (hcb _ _ hy2.1), (hW.cell (p := ⟨gb, j * 2 + 1, none⟩) hgb).trans (hcb _ _ hy2.2)⟩
    obtain ⟨t, ht⟩ : ∃ t, (!(x1 == y1 && x2 == y2)) = t := ⟨_, rfl⟩
    have HT := Lib.hid ht
    have HE : Hid (∀ W, (binOp .neq 54 (.agg #[.int .u16 x1, .int .u16 x2]) (.agg #[.int .u16 y1, .int .u16 y2])).run Try.prog W = .ok (.bool t) W) := Lib.hid fun W => by rw [neq54, ht]
    clear hx2 hy2 ht
    clear hca hcb hga hgb hj hlt hx hy
    go_upto_region 6 with (fail)
    refine wp_region_flow (S := fun W => Below w.heap.size w W) (by kernel_rfl) (by kernel_rfl) (Below.drew HB.out) ?_
    iterate 3
     apply Flow.step
     ·intro V K hS hK
      go_simp
      exact hK _ hS
     simp only [lQ]
    apply Flow.step
    ·intro V K hS hK
     obtain ⟨⟨l1, l2⟩, m1, m2⟩ := HQ.out _ hS
     go_simp
     exact hK _ hS
    iterate 3
     simp only [lQ]
     apply Flow.step
     ·intro V K hS hK
      go_simp
      exact hK _ hS
    simp only [lQ]
    iterate 2
     apply Flow.step
     ·intro V K hS hK
      obtain ⟨⟨l1, l2⟩, m1, m2⟩ := HQ.out _ hS
      obtain hq := HE.out
      obtain hg := guard54
      go_simp
      exact hK _ hS
     simp only [lQ]
    refine Flow.done ?_
    intro V hS
    have HB2 := Lib.hid hS
    clear hS
    cases t
    ·skip
     go_wp2_with fail
     go_roundw
     case rel =>
      refine ⟨j + 1, by have := HLT.out; omega, by go_num, HB2.out, fun i hi => ?_⟩
      rcases Nat.lt_or_ge i j with h | h
      ·exact HP.out i h
      ·obtain rfl : i = j := by omega
       have hxy : (x1, x2) = (y1, y2) := by simpa using HT.out
       rw [HX.out, HY.out, hxy]
     case measure => have := HLT.out; simp only [intOf]; omega
    ·skip
     have hb9 : b = false := by
      rw [← HBV.out]
      refine decide_eq_false fun e => (show ¬ (x1, x2) = (y1, y2) from fun e5 => by
       have h5 := HT.out
       injection e5 with e6 e7
       subst e6 e7
       simp at h5) ?_
      have h1 := HX.out
      rw [e, HY.out] at h1
      exact (Option.some.inj h1).symm
     subst hb9
     go_wp2_with fail
     exact bodyPost_ret (v := .bool false) (by simp [results, Try.results43, go_sem]) rfl ⟨rfl, HB2.out⟩
   ·obtain rfl : j = n := by omega
    have b0 : decide ((j : Int) < (j : Int)) = false := decide_eq_false (by omega)
    have b1 : decide (j < j) = false := decide_eq_false (by omega)
    have hb9 : b = true := by
     rw [← HBV.out]
     exact decide_eq_true (eq_of_at HN.out HN2.out HP.out)
    subst hb9
    clear hj hlt
    go_wp2_with fail
    exact bodyPost_ret (v := .bool true) (by simp [results, Try.results43, go_sem]) rfl ⟨rfl, HB.out⟩
 ·have e0 : ((n : Int) == (n2 : Int)) = false := by simp; omega
  have e1 : decide ((n : Int) = (n2 : Int)) = false := decide_eq_false (by omega)
  have e2 : ¬ (n : Int) = (n2 : Int) := by omega
  have e3 : decide (n = n2) = false := decide_eq_false (by omega)
  have hb9 : b = false := by
   rw [← HBV.out]
   exact decide_eq_false fun e => hlen (by rw [← HN.out, ← HN2.out, e])
  subst hb9
  clear h9 h8
  go_enter Try.func43, Try.ntmps43
  go_wp2_with fail
  exact bodyPost_ret (v := .bool false) (by simp [results, Try.results43, go_sem]) rfl ⟨rfl, Below.refl _ _⟩
end Go.Proofs.Ytieaicdihingkaa
