/- Contracts: relocations that are wrong. -/
import Derived.Test.YtgdiaaoekkdibaaI3
import Derived.Test.YtgdiaaoekkdibaaP1
namespace Go.Proofs.Ytgdiaaoekkdibaa
set_option linter.unusedVariables false
open Go.RowKit
theorem last6 {A B C D E F : Prop} (h : A ∧ B ∧ C ∧ D ∧ E ∧ F) : F := h.2.2.2.2.2
theorem slice_from (s : ByteArray) (n : Nat) (h : n ≤ s.size) : (s.extract n s.size).size ≤ maxLen → True := fun _ => trivial
theorem last4 {A B C D : Prop} (h : A ∧ B ∧ C ∧ D) : D := h.2.2.2
theorem keep4 {A B C : Prop} {w1 W w2 : World} (h : A ∧ B ∧ C ∧ Below w1.heap.size w1 W) (k : Below W.heap.size W w2) : Below w1.heap.size w1 w2 := h.2.2.2.trans (k.mono h.2.2.2.size)
set_option maxRecDepth 4000 in
set_option maxHeartbeats 2000000 in
theorem wrongReloc_any (p1 : Option Addr) (c1 : Nat) (banks : List ByteArray) (p2 : Option Addr) (c2 : Nat) (data : List ObjI) (p3 : Option Addr) (c3 : Nat) (l : List RelI) (k : Nat) (w : World)
    (h1 : StrsAt w p1 banks) (h2 : ObjsAt w p2 data) (h3 : RelsAt w p3 l) (l1 : banks.length ≤ maxLen) (l2 : data.length ≤ maxLen) (l3 : l.length ≤ maxLen) (hF : Full banks) (r : RelI) (hk : l[k]? = some r) :
    Calls Try.prog 49 #[.slice p1 banks.length c1, .slice p2 data.length c2, .slice p3 l.length c3, .int .i64 (k : Int)] w fun e w' => e = .returned (.bool (relWrong banks data (prevAt l k) r)) ∧ Below w.heap.size w w' := by
  obtain ⟨B, rfl, hBs, e0, e1, ⟨o0, o1⟩, ⟨o2, o3⟩⟩ := h3 k r hk
  have hlt : k < l.length := (List.getElem?_eq_some_iff.1 hk).1
  have L2 := Lib.hid l2
  unfold maxLen at l1 l2 l3
  have HX : Hid (∃ X, relWrong banks data (prevAt l k) r = X) := ⟨_, rfl⟩
  obtain ⟨X, hX⟩ := HX.out
  rw [hX]
  have hX := Lib.hid hX
  clear HX
  by_cases hb : r.bad0 banks.length
  · have hW : X = true := by rw [← hX.out]; unfold relWrong; rw [decide_eq_true (.inl hb)]; rfl
    rw [hW]
    clear hW hX h1 h2 h3
    unfold RelI.bad0 at hb
    go_enter Try.func49, Try.ntmps49
    go_wp2
    all_goals
      go_ret
      exact ⟨rfl, by repeat (first | exact Below.refl _ _ | refine below_alloc ?_ _)⟩
  · have hnb := Lib.hid hb
    unfold RelI.bad0 at hb
    have b0 : 0 ≤ r.bank := by omega
    have b1 : r.bank < banks.length := by omega
    have b2 : r.off ≤ 4094 := by omega
    obtain ⟨s, hs⟩ := at_some banks r.bank.toNat (by omega)
    have hs4 : s.size = 4096 := hF s (List.mem_of_getElem? hs)
    have hoff : r.off ≤ (s.size : Int) := by omega
    have hsm : (s.size : Int) ≤ 4096 := by omega
    have HX4 : Hid ((s.extract r.off.toNat s.size).size ≤ maxLen) := by
      show _ ≤ _
      rw [ByteArray.size_extract]; unfold maxLen; omega
    have hbk : bankOf banks r = s := by unfold bankOf; rw [hs]; rfl
    have GB : Hid (OkU16 (getI (s.extract r.off.toNat s.size))) := getI_bd _
    have hM : Hid (relMeets banks data r = (objFind (-1) (getI (s.extract r.off.toNat s.size)) data 0).2.2) := by
      show relMeets banks data r = _
      unfold relMeets relWord; rw [hbk]
    have HS1 := Lib.hid h1
    have HD := Lib.hid h2
    have Hs := Lib.hid hs
    clear hF hbk h1 h2 hb hs4
    rcases (show k = 0 ∨ ∃ j, k = j + 1 from by cases k with | zero => exact .inl rfl | succ j => exact .inr ⟨j, rfl⟩) with rfl | ⟨j, rfl⟩
    · clear h3
      go_enter Try.func49, Try.ntmps49
      go_wp2
      have hBW : Below w.heap.size w (w.alloc (Obj.cells #[Value.int IntKind.i64 r.bank, Value.int IntKind.u16 r.off] 41)) := below1 _ _
      have x0 : (w.alloc (Obj.cells #[Value.int IntKind.i64 r.bank, Value.int IntKind.u16 r.off] 41)).cell? ⟨w.heap.size, 0, none⟩ = some (.int .i64 r.bank) := by simp
      have x1 : (w.alloc (Obj.cells #[Value.int IntKind.i64 r.bank, Value.int IntKind.u16 r.off] 41)).cell? ⟨w.heap.size, 1, none⟩ = some (.int .u16 r.off) := by simp
      have hsz : w.heap.size < (w.alloc (Obj.cells #[Value.int IntKind.i64 r.bank, Value.int IntKind.u16 r.off] 41)).heap.size := by simp <;> omega
      generalize w.alloc (Obj.cells #[Value.int IntKind.i64 r.bank, Value.int IntKind.u16 r.off] 41) = wS at *
      obtain ⟨B1, rfl, hB1, g0, _⟩ := HS1.out.kept hBW r.bank.toNat s hs
      have HD := Lib.hid (HD.out.kept hBW)
      have HA : Hid (∀ w' : World, Below wS.heap.size wS w' → w'.cell? ⟨w.heap.size, 0, none⟩ = some (.int .i64 r.bank) ∧ w'.cell? ⟨w.heap.size, 1, none⟩ = some (.int .u16 r.off) ∧ w'.cell? ⟨B1, r.bank.toNat, none⟩ = some (.string s) ∧ Below wS.heap.size wS w') :=
        fun w' hb => ⟨(hb.cell (by simp <;> omega)).trans x0, (hb.cell (by simp <;> omega)).trans x1, (hb.cell (by simp <;> omega)).trans g0, hb⟩
      go_region_held3 (fun w' => w'.cell? ⟨w.heap.size, 0, none⟩ = some (.int .i64 r.bank) ∧ w'.cell? ⟨w.heap.size, 1, none⟩ = some (.int .u16 r.off) ∧ w'.cell? ⟨B1, r.bank.toNat, none⟩ = some (.string s) ∧ Below wS.heap.size wS w')
        (first
          | exact HA.out _ (Below.drew (Below.refl _ _))
          | exact HA.out _ (keep4 (by assumption) h5)
          | assumption)
        (first
          | (go_at_call 39; refine (rget_any _ _ HX4.out).mono ?_; rintro e w2 ⟨rfl, rfl⟩)
          | (go_at_call 31; refine (robjectAt_any _ _ _ _ _ _ L2.out (HD.out.kept (last4 (by assumption))) ⟨by omega, by omega⟩ GB.out).mono ?_; rintro e w5 ⟨rfl, h5⟩))
      have hend := below_next hBW (last4 (by assumption))
      clear HA
      go_wp2
      go_ret
      refine ⟨ret_bool ?_, hend⟩
      rw [← hX.out]; unfold relWrong; rw [decide_eq_false (by intro h; rcases h with h | h; exact hnb.out h; exact h), hM.out]; rfl
    · obtain ⟨q, hq⟩ := at_some l j (by omega)
      obtain ⟨B', hBB, hBs', f0, f1, ⟨qa, qb⟩, ⟨qc, qd⟩⟩ := h3 j q hq
      obtain rfl : B = B' := by simpa using hBB
      have hL : Hid (RelI.late (prevAt l (j + 1)) r ↔ q.after r) := by show _ ↔ _; rw [prev_next, hq]; rfl
      clear h3 hBB hBs' hq
      by_cases ha : q.after r
      · have hW : X = true := by rw [← hX.out]; unfold relWrong; rw [decide_eq_true (.inr (hL.out.2 ha))]; rfl
        rw [hW]
        clear hW hX
        unfold RelI.after at ha
        go_enter Try.func49, Try.ntmps49
        go_wp2_with fail
        all_goals
          go_ret
          exact ⟨rfl, by repeat (first | exact Below.refl _ _ | refine below_alloc ?_ _)⟩
      · have hna := Lib.hid ha
        unfold RelI.after at ha
        have hle : q.bank ≤ r.bank := by omega
        by_cases hqb : q.bank = r.bank
        · have hle2 : q.off + 2 ≤ r.off := by omega
          have hbb : (q.bank == r.bank) = true := by simpa using hqb
          clear ha hqb
          go_enter Try.func49, Try.ntmps49
          go_wp2_with fail
          have hBW : Below w.heap.size w ((w.alloc (Obj.cells #[Value.int IntKind.i64 r.bank, Value.int IntKind.u16 r.off] 41)).alloc (Obj.cells #[Value.int IntKind.i64 q.bank, Value.int IntKind.u16 q.off] 41)) := below_alloc (below1 _ _) _
          have x0 : ((w.alloc (Obj.cells #[Value.int IntKind.i64 r.bank, Value.int IntKind.u16 r.off] 41)).alloc (Obj.cells #[Value.int IntKind.i64 q.bank, Value.int IntKind.u16 q.off] 41)).cell? ⟨w.heap.size, 0, none⟩ = some (.int .i64 r.bank) := by simp [go_sem]
          have x1 : ((w.alloc (Obj.cells #[Value.int IntKind.i64 r.bank, Value.int IntKind.u16 r.off] 41)).alloc (Obj.cells #[Value.int IntKind.i64 q.bank, Value.int IntKind.u16 q.off] 41)).cell? ⟨w.heap.size, 1, none⟩ = some (.int .u16 r.off) := by simp [go_sem]
          have hsz : w.heap.size < ((w.alloc (Obj.cells #[Value.int IntKind.i64 r.bank, Value.int IntKind.u16 r.off] 41)).alloc (Obj.cells #[Value.int IntKind.i64 q.bank, Value.int IntKind.u16 q.off] 41)).heap.size := by simp <;> omega
          generalize (w.alloc (Obj.cells #[Value.int IntKind.i64 r.bank, Value.int IntKind.u16 r.off] 41)).alloc (Obj.cells #[Value.int IntKind.i64 q.bank, Value.int IntKind.u16 q.off] 41) = wS at *
          obtain ⟨B1, rfl, hB1, g0, _⟩ := HS1.out.kept hBW r.bank.toNat s hs
          have HD := Lib.hid (HD.out.kept hBW)
          have HA : Hid (∀ w' : World, Below wS.heap.size wS w' → w'.cell? ⟨w.heap.size, 0, none⟩ = some (.int .i64 r.bank) ∧ w'.cell? ⟨w.heap.size, 1, none⟩ = some (.int .u16 r.off) ∧ w'.cell? ⟨B1, r.bank.toNat, none⟩ = some (.string s) ∧ Below wS.heap.size wS w') :=
            fun w' hb => ⟨(hb.cell (by simp <;> omega)).trans x0, (hb.cell (by simp <;> omega)).trans x1, (hb.cell (by simp <;> omega)).trans g0, hb⟩
          go_region_held3 (fun w' => w'.cell? ⟨w.heap.size, 0, none⟩ = some (.int .i64 r.bank) ∧ w'.cell? ⟨w.heap.size, 1, none⟩ = some (.int .u16 r.off) ∧ w'.cell? ⟨B1, r.bank.toNat, none⟩ = some (.string s) ∧ Below wS.heap.size wS w')
            (first
              | exact HA.out _ (Below.drew (Below.refl _ _))
              | exact HA.out _ (keep4 (by assumption) h5)
              | assumption)
            (first
              | (go_at_call 39; refine (rget_any _ _ HX4.out).mono ?_; rintro e w2 ⟨rfl, rfl⟩)
              | (go_at_call 31; refine (robjectAt_any _ _ _ _ _ _ L2.out (HD.out.kept (last4 (by assumption))) ⟨by omega, by omega⟩ GB.out).mono ?_; rintro e w5 ⟨rfl, h5⟩))
          have hend := below_next hBW (last4 (by assumption))
          clear HA
          go_wp2
          go_ret
          refine ⟨ret_bool ?_, hend⟩
          rw [← hX.out]; unfold relWrong; rw [decide_eq_false (by intro h; rcases h with h | h; exact hnb.out h; exact hna.out (hL.out.1 h)), hM.out]; rfl
        · have hbb : (q.bank == r.bank) = false := by simpa using hqb
          clear ha hqb
          go_enter Try.func49, Try.ntmps49
          go_wp2_with fail
          have hBW : Below w.heap.size w ((w.alloc (Obj.cells #[Value.int IntKind.i64 r.bank, Value.int IntKind.u16 r.off] 41)).alloc (Obj.cells #[Value.int IntKind.i64 q.bank, Value.int IntKind.u16 q.off] 41)) := below_alloc (below1 _ _) _
          have x0 : ((w.alloc (Obj.cells #[Value.int IntKind.i64 r.bank, Value.int IntKind.u16 r.off] 41)).alloc (Obj.cells #[Value.int IntKind.i64 q.bank, Value.int IntKind.u16 q.off] 41)).cell? ⟨w.heap.size, 0, none⟩ = some (.int .i64 r.bank) := by simp [go_sem]
          have x1 : ((w.alloc (Obj.cells #[Value.int IntKind.i64 r.bank, Value.int IntKind.u16 r.off] 41)).alloc (Obj.cells #[Value.int IntKind.i64 q.bank, Value.int IntKind.u16 q.off] 41)).cell? ⟨w.heap.size, 1, none⟩ = some (.int .u16 r.off) := by simp [go_sem]
          have hsz : w.heap.size < ((w.alloc (Obj.cells #[Value.int IntKind.i64 r.bank, Value.int IntKind.u16 r.off] 41)).alloc (Obj.cells #[Value.int IntKind.i64 q.bank, Value.int IntKind.u16 q.off] 41)).heap.size := by simp <;> omega
          generalize (w.alloc (Obj.cells #[Value.int IntKind.i64 r.bank, Value.int IntKind.u16 r.off] 41)).alloc (Obj.cells #[Value.int IntKind.i64 q.bank, Value.int IntKind.u16 q.off] 41) = wS at *
          obtain ⟨B1, rfl, hB1, g0, _⟩ := HS1.out.kept hBW r.bank.toNat s hs
          have HD := Lib.hid (HD.out.kept hBW)
          have HA : Hid (∀ w' : World, Below wS.heap.size wS w' → w'.cell? ⟨w.heap.size, 0, none⟩ = some (.int .i64 r.bank) ∧ w'.cell? ⟨w.heap.size, 1, none⟩ = some (.int .u16 r.off) ∧ w'.cell? ⟨B1, r.bank.toNat, none⟩ = some (.string s) ∧ Below wS.heap.size wS w') :=
            fun w' hb => ⟨(hb.cell (by simp <;> omega)).trans x0, (hb.cell (by simp <;> omega)).trans x1, (hb.cell (by simp <;> omega)).trans g0, hb⟩
          go_region_held3 (fun w' => w'.cell? ⟨w.heap.size, 0, none⟩ = some (.int .i64 r.bank) ∧ w'.cell? ⟨w.heap.size, 1, none⟩ = some (.int .u16 r.off) ∧ w'.cell? ⟨B1, r.bank.toNat, none⟩ = some (.string s) ∧ Below wS.heap.size wS w')
            (first
              | exact HA.out _ (Below.drew (Below.refl _ _))
              | exact HA.out _ (keep4 (by assumption) h5)
              | assumption)
            (first
              | (go_at_call 39; refine (rget_any _ _ HX4.out).mono ?_; rintro e w2 ⟨rfl, rfl⟩)
              | (go_at_call 31; refine (robjectAt_any _ _ _ _ _ _ L2.out (HD.out.kept (last4 (by assumption))) ⟨by omega, by omega⟩ GB.out).mono ?_; rintro e w5 ⟨rfl, h5⟩))
          have hend := below_next hBW (last4 (by assumption))
          clear HA
          go_wp2
          go_ret
          refine ⟨ret_bool ?_, hend⟩
          rw [← hX.out]; unfold relWrong; rw [decide_eq_false (by intro h; rcases h with h | h; exact hnb.out h; exact hna.out (hL.out.1 h)), hM.out]; rfl
end Go.Proofs.Ytgdiaaoekkdibaa
