/- Contracts: comparisons, inside, badObject. -/
import Derived.Test.YtgdiaaoekkdibaaI1
import Derived.Deep.RegionHeld3
import Derived.Deep.DeepCutAuto
namespace Go.Proofs.Ytgdiaaoekkdibaa
set_option linter.unusedVariables false
open Go.RowKit
theorem isNaN_any (a : Int) (w : World) : Calls Try.prog 82 #[.int .i64 a] w fun e w' => e = .returned (.bool false) ∧ w = w' := by
  go_enter Try.func82, Try.ntmps82
  go_wp2
  go_ret
  exact ⟨rfl, rfl⟩
theorem compare_any (a b : Int) (w : World) : Calls Try.prog 77 #[.int .i64 a, .int .i64 b] w fun e w' => e = .returned (.int .i64 (cmpI a b)) ∧ w = w' := by
  by_cases h : a < b
  · have hc : cmpI a b = -1 := by unfold cmpI; rw [if_pos h]
    rw [hc]; clear hc
    go_enter Try.func77, Try.ntmps77
    go_wp2_with (go_at_call 82; refine (isNaN_any _ _).mono ?_; rintro e w' ⟨rfl, rfl⟩)
    go_ret
    exact ⟨rfl, rfl⟩
  · by_cases h2 : b < a
    · have hc : cmpI a b = 1 := by unfold cmpI; rw [if_neg h, if_pos h2]
      rw [hc]; clear hc
      go_enter Try.func77, Try.ntmps77
      go_wp2_with (go_at_call 82; refine (isNaN_any _ _).mono ?_; rintro e w' ⟨rfl, rfl⟩)
      go_ret
      exact ⟨rfl, rfl⟩
    · have hc : cmpI a b = 0 := by unfold cmpI; rw [if_neg h, if_neg h2]
      rw [hc]; clear hc
      go_enter Try.func77, Try.ntmps77
      go_wp2_with (go_at_call 82; refine (isNaN_any _ _).mono ?_; rintro e w' ⟨rfl, rfl⟩)
      go_ret
      exact ⟨rfl, rfl⟩
def orI (x y : Int) : Int := if x = 0 then y else x
theorem or_any (x y : Int) (B c : Nat) (w : World) (h0 : w.cell? ⟨B, 0, none⟩ = some (.int .i64 x)) (h1 : w.cell? ⟨B, 1, none⟩ = some (.int .i64 y)) :
    Calls Try.prog 76 #[.slice (some ⟨B, 0, none⟩) 2 c] w fun e w' => e = .returned (.int .i64 (orI x y)) ∧ w = w' := by
  go_enter Try.func76, Try.ntmps76
  go_wp2
  go_loop [8] (fun i => ∃ k : Nat, k ≤ 2 ∧ i = .int .i64 k ∧ (1 ≤ k → x = 0) ∧ (2 ≤ k → y = 0)) (fun i => 2 - (intOf i).toNat)
  case atStart => exact ⟨0, by omega, rfl, by omega, by omega⟩
  case round =>
    obtain ⟨k, hk, rfl, hx, hy⟩ := hrel
    rcases (show k = 0 ∨ k = 1 ∨ k = 2 by omega) with rfl | rfl | rfl
    · clear hx hy
      by_cases h : x = 0
      · subst h
        go_wp2
        go_round
        case rel => exact ⟨1, by omega, rfl, by simp, by omega⟩
        case measure => simp [intOf]
      · have hb : (x == 0) = false := by simpa using h
        have ho : orI x y = x := by unfold orI; rw [if_neg h]
        have HO := Lib.hid ho
        clear ho
        go_wp2
        go_ret
        exact ⟨by rw [HO.out]; rfl, rfl⟩
    · have hx0 := hx (by omega)
      subst hx0
      clear hx hy
      have ho : orI 0 y = y := by unfold orI; rw [if_pos rfl]
      have HO := Lib.hid ho
      clear ho
      by_cases h : y = 0
      · subst h
        go_wp2
        go_round
        case rel => exact ⟨2, by omega, rfl, by simp, by simp⟩
        case measure => simp [intOf]
      · have hb : (y == 0) = false := by simpa using h
        go_wp2
        go_ret
        exact ⟨by rw [HO.out]; rfl, rfl⟩
    · have hx0 := hx (by omega)
      have hy0 := hy (by omega)
      subst hx0; subst hy0
      clear hx hy
      go_wp2
      go_ret
      exact ⟨rfl, rfl⟩
def ObjI.inside (o : ObjI) (banks : Int) : Prop :=
  (o.bank = -1 ∧ 16384 ≤ o.addr ∧ o.addr + o.size ≤ 24576) ∨ (0 ≤ o.bank ∧ o.bank < banks ∧ o.addr + o.size ≤ 4096)
instance (o : ObjI) (b : Int) : Decidable (o.inside b) := by unfold ObjI.inside; infer_instance
set_option maxHeartbeats 1000000 in
theorem inside_any (o : ObjI) (banks : Int) (w : World) (ho : o.ok) (hb : OkI64 banks) :
    Calls Try.prog 75 #[.agg #[.int .i64 o.bank, .int .u16 o.addr, .int .u16 o.size], .int .i64 banks] w fun e w' => e = .returned (.bool (decide (o.inside banks))) ∧ Below w.heap.size w w' := by
  obtain ⟨⟨o0, o1⟩, ⟨o2, o3⟩, ⟨o4, o5⟩⟩ := ho
  obtain ⟨b0, b1⟩ := hb
  obtain ⟨X, hX⟩ : ∃ X, decide (o.inside banks) = X := ⟨_, rfl⟩
  rw [hX]
  have HX := Lib.hid hX.symm
  clear hX
  go_enter Try.func75, Try.ntmps75
  go_wp2_with (go_at_call 65; refine (end_any _ _ _ _ ⟨by omega, by omega⟩ ⟨by omega, by omega⟩).mono ?_; rintro e w' ⟨rfl, rfl⟩)
  all_goals
    go_ret
    refine ⟨ret_bool ?_, by repeat (first | exact Below.refl _ _ | refine below_alloc ?_ _)⟩
    rw [HX.out]
    try simp only [beq_iff_eq, beq_eq_false_iff_ne, ne_eq] at *
    first
      | exact dec_true (by unfold ObjI.inside; omega)
      | exact dec_false (by unfold ObjI.inside; omega)
      | exact decide_eq_decide.2 (by unfold ObjI.inside; omega)

theorem bad0_inside (o : ObjI) (banks : Int) (hb : 0 ≤ banks) : o.bad0 banks ↔ (o.size = 0 ∨ ¬ o.inside banks) := by
  unfold ObjI.bad0 ObjI.inside; omega
theorem cmp_after (q o : ObjI) : 0 ≤ orI (cmpI q.bank o.bank) (cmpI (q.addr + q.size - 1) o.addr) ↔ q.after o := by
  unfold orI cmpI ObjI.after
  by_cases h1 : q.bank < o.bank
  · simp only [h1, if_true]; simp; omega
  · by_cases h2 : o.bank < q.bank
    · simp [h1, h2]
    · simp [h1, h2]; split <;> (try split) <;> omega
theorem keep_alloc {w1 W : World} (h : Below w1.heap.size w1 W) (o : Obj) : Below w1.heap.size w1 (W.alloc o) := h.alloc h.size o
set_option maxHeartbeats 2000000 in
theorem badObject_any (p : Option Addr) (cap : Nat) (l : List ObjI) (banks : Int) (w : World) (hl : l.length ≤ maxLen) (ho : ObjsAt w p l) (hb : OkI64 banks) (hb0 : 0 ≤ banks) :
    Calls Try.prog 46 #[.slice p l.length cap, .int .i64 banks] w fun e w' => e = .returned (.int .i64 (firstObj banks none l 0)) ∧ Below w.heap.size w w' := by
  obtain ⟨b0, b1⟩ := hb
  unfold maxLen at hl
  have HO := Lib.hid ho
  clear ho
  go_enter Try.func46, Try.ntmps46
  go_wp2
  go_loopw [9] (fun i wr => ∃ k : Nat, k ≤ l.length ∧ i = .int .i64 k ∧ Below w.heap.size w wr ∧ firstObj banks none l 0 = firstObj banks (prevAt l k) (l.drop k) k) (fun i _ => l.length - (intOf i).toNat)
  case atStart => exact ⟨0, Nat.zero_le _, rfl, Below.refl _ _, rfl⟩
  case round =>
    obtain ⟨k, hk, rfl, hB, hf⟩ := hrel
    have HF := Lib.hid hf
    clear hf
    by_cases hlt : k < l.length
    · obtain ⟨o, hok⟩ := at_some l k hlt
      obtain ⟨B, rfl, hBs, c0, c1, c2, ook⟩ := HO.out.kept hB k o hok
      have OOK := Lib.hid ook
      obtain ⟨⟨o0, o1⟩, ⟨o2, o3⟩, ⟨o4, o5⟩⟩ := ook
      have HK := Lib.hid hok
      clear hok
      by_cases d0 : o.size = 0
      · have hh : objWrong banks (prevAt l k) o = true := by
          have : o.bad0 banks := (bad0_inside o banks hb0).2 (.inl d0)
          unfold objWrong; split
          · exact decide_eq_true this
          · exact decide_eq_true (.inl this)
        have HH := Lib.hid (firstObj_hit banks l k o _ HK.out hh)
        clear hh
        go_wp2
        go_ret
        exact ⟨by rw [HF.out, HH.out]; rfl, below_alloc hB _⟩
      · have d0' : (o.size == 0) = false := by simpa using d0
        by_cases d1 : o.inside banks
        · have d1' : decide (o.inside banks) = true := decide_eq_true d1
          rcases (show k = 0 ∨ ∃ j, k = j + 1 from by cases k with | zero => exact .inl rfl | succ j => exact .inr ⟨j, rfl⟩) with rfl | ⟨j, rfl⟩
          · have hm : objWrong banks (prevAt l 0) o = false := by
              show decide _ = false
              rw [decide_eq_false]; rw [bad0_inside o banks hb0]; simp [d0, d1]
            have HM := Lib.hid (firstObj_miss banks l 0 o _ HK.out hm)
            clear hm
            go_wp2_with (go_at_call 75; refine (inside_any o banks _ OOK.out ⟨by omega, by omega⟩).mono ?_; rintro e w2 ⟨rfl, h2⟩)
            go_quiet (fail)
            go_wp2
            go_roundw
            case rel => exact ⟨1, by omega, rfl, below_drewN (below_next (below_alloc hB _) h2) _, by rw [HF.out, HM.out]⟩
            case measure => simp [intOf]; omega
          · obtain ⟨q, hq⟩ := at_some l j (by omega)
            have hW : objWrong banks (prevAt l (j + 1)) o = decide (o.bad0 banks ∨ q.after o) := by rw [prev_next, hq]; rfl
            have hnb : ¬ o.bad0 banks := by rw [bad0_inside o banks hb0]; simp [d0, d1]
            have HQ := Lib.hid hq
            clear hq
            go_wp2_with (go_at_call 75; refine (inside_any o banks _ OOK.out ⟨by omega, by omega⟩).mono ?_; rintro e w2 ⟨rfl, h2⟩)
            have hB2 := below_next (below_alloc hB _) h2
            obtain ⟨B', hBB, hBs', e0, e1, e2, ⟨p0, p1⟩, ⟨p2, p3⟩, ⟨p4, p5⟩⟩ := HO.out.kept hB2 j q HQ.out
            obtain rfl : B = B' := by simpa using hBB
            have x0 : w2.cell? ⟨wr.heap.size, 0, none⟩ = some (.int .i64 o.bank) := (h2.cell (by simp)).trans (by simp)
            have x1 : w2.cell? ⟨wr.heap.size, 1, none⟩ = some (.int .u16 o.addr) := (h2.cell (by simp)).trans (by simp)
            have s2 := h2.size
            rw [World.size_alloc] at s2
            clear h2 c0 c1 c2 hBB
            have HS : Hid (∀ w' : World, Below w2.heap.size w2 w' → w'.cell? ⟨B, j * 3, none⟩ = some (.int .i64 q.bank) ∧ w'.cell? ⟨B, j * 3 + 1, none⟩ = some (.int .u16 q.addr) ∧ w'.cell? ⟨B, j * 3 + 2, none⟩ = some (.int .u16 q.size) ∧ w'.cell? ⟨wr.heap.size, 0, none⟩ = some (.int .i64 o.bank) ∧ w'.cell? ⟨wr.heap.size, 1, none⟩ = some (.int .u16 o.addr)) :=
              fun w' hb => ⟨(hb.cell (by simp <;> omega)).trans e0, (hb.cell (by simp <;> omega)).trans e1, (hb.cell (by simp <;> omega)).trans e2, (hb.cell (by simp <;> omega)).trans x0, (hb.cell (by simp <;> omega)).trans x1⟩
            have i0 : IntKind.i64.wrap (j : Int) = j := IntWalk.i64_in _ (by omega)
            have i4 : IntKind.i64.wrap o.addr = o.addr := IntWalk.i64_in _ (by omega)
            have i1 : (0 : Int) ≤ (j : Int) := by omega
            have i2 : (j : Int) < (l.length : Int) := by omega
            have i3 : IntKind.i64.wrap (q.addr + q.size - 1) = q.addr + q.size - 1 := IntWalk.i64_in _ (by omega)
            go_region_held3 (fun w' => w'.cell? ⟨B, j * 3, none⟩ = some (.int .i64 q.bank) ∧ w'.cell? ⟨B, j * 3 + 1, none⟩ = some (.int .u16 q.addr) ∧ w'.cell? ⟨B, j * 3 + 2, none⟩ = some (.int .u16 q.size) ∧ w'.cell? ⟨wr.heap.size, 0, none⟩ = some (.int .i64 o.bank) ∧ w'.cell? ⟨wr.heap.size, 1, none⟩ = some (.int .u16 o.addr))
              (exact HS.out _ (by repeat (first | exact Below.refl _ _ | refine Below.drew ?_ | refine keep_alloc ?_ _)))
              (first
                | (go_at_call 77; refine (compare_any _ _ _).mono ?_; rintro e w2 ⟨rfl, rfl⟩)
                | (go_at_call 65; refine (end_any _ _ _ _ ⟨by omega, by omega⟩ ⟨by omega, by omega⟩).mono ?_; rintro e w2 ⟨rfl, rfl⟩)
                | (go_at_call 76; refine (or_any (cmpI q.bank o.bank) (cmpI (q.addr + q.size - 1) o.addr) _ _ _ (by simp [go_sem]) (by simp [go_sem])).mono ?_; rintro e w2 ⟨rfl, rfl⟩))
            have hE : ∀ o1 o2, Below w.heap.size w ((w2.alloc o1).alloc o2).drew := fun o1 o2 => Below.drew (below_alloc (below_alloc hB2 _) _)
            have HE := Lib.hid hE
            clear hE HS
            by_cases ha : q.after o
            · have h9 := (cmp_after q o).2 ha
              have hh : objWrong banks (prevAt l (j + 1)) o = true := by rw [hW]; exact decide_eq_true (.inr ha)
              have HH := Lib.hid (firstObj_hit banks l (j + 1) o _ HK.out hh)
              clear hh hW
              go_wp2
              go_ret
              exact ⟨by rw [HF.out, HH.out]; rfl, HE.out _ _⟩
            · have h9 := Int.not_le.1 (fun h => ha ((cmp_after q o).1 h))
              have hm : objWrong banks (prevAt l (j + 1)) o = false := by rw [hW]; exact decide_eq_false (by simp [hnb, ha])
              have HM := Lib.hid (firstObj_miss banks l (j + 1) o _ HK.out hm)
              clear hm hW
              go_wp2
              go_roundw
              case rel => exact ⟨j + 1 + 1, by omega, by go_num, HE.out _ _, by rw [HF.out, HM.out]⟩
              case measure => simp [intOf]; omega
        · have d1' : decide (o.inside banks) = false := decide_eq_false d1
          have hh : objWrong banks (prevAt l k) o = true := by
            have : o.bad0 banks := (bad0_inside o banks hb0).2 (.inr d1)
            unfold objWrong; split
            · exact decide_eq_true this
            · exact decide_eq_true (.inl this)
          have HH := Lib.hid (firstObj_hit banks l k o _ HK.out hh)
          clear hh
          go_wp2_with (go_at_call 75; refine (inside_any o banks _ OOK.out ⟨by omega, by omega⟩).mono ?_; rintro e w2 ⟨rfl, h2⟩)
          go_ret
          exact ⟨by rw [HF.out, HH.out]; rfl, below_next (below_alloc hB _) h2⟩
    · obtain rfl : k = l.length := by omega
      go_wp2
      go_ret
      exact ⟨by rw [HF.out, firstObj_end]; rfl, hB⟩
end Go.Proofs.Ytgdiaaoekkdibaa
