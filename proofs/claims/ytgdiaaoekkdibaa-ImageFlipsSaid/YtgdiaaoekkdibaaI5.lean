/- The contract of badReloc. -/
import Derived.Test.YtgdiaaoekkdibaaI4
namespace Go.Proofs.Ytgdiaaoekkdibaa
set_option linter.unusedVariables false
open Go.RowKit
theorem keep6 {A B C D E : Prop} {w1 W w2 : World} (h : A ∧ B ∧ C ∧ D ∧ E ∧ Below w1.heap.size w1 W) (k : Below W.heap.size W w2) : Below w1.heap.size w1 w2 := h.2.2.2.2.2.trans (k.mono h.2.2.2.2.2.size)
theorem rcmp_after (q r : RelI) : 0 ≤ orI (cmpI q.bank r.bank) (cmpI (q.off + 1) r.off) ↔ q.after r := by
  unfold orI cmpI RelI.after
  by_cases h1 : q.bank < r.bank
  · simp only [h1, if_true]; simp; omega
  · by_cases h2 : r.bank < q.bank
    · simp [h1, h2]
    · simp [h1, h2]; split <;> (try split) <;> omega
set_option maxRecDepth 4000 in
set_option maxHeartbeats 4000000 in
theorem badReloc_any (p1 : Option Addr) (c1 : Nat) (p2 : Option Addr) (c2 : Nat) (p3 : Option Addr) (c3 : Nat) (I : Img) (w : World) (hI : ImgAt w p1 p2 p3 I) (hF : Full I.banks) :
    Calls Try.prog 47 #[imgV p1 c1 p2 c2 p3 c3 I] w fun e w' => e = .returned (.int .i64 (firstRel I.banks I.data none I.relocs 0)) ∧ Below w.heap.size w w' := by
  obtain ⟨banks, entry, vector, data, l⟩ := I
  obtain ⟨h1, h2, h3, _, _, l1, l2, l3⟩ := hI
  dsimp only at h1 h2 h3 l1 l2 l3 hF
  show Calls Try.prog 47 #[.agg #[.slice p1 banks.length c1, .int .u16 entry, .int .u16 vector, .slice p2 data.length c2, .slice p3 l.length c3]] w fun e w' => e = .returned (.int .i64 (firstRel banks data none l 0)) ∧ Below w.heap.size w w'
  have L2 := Lib.hid l2
  unfold maxLen at l1 l2 l3
  have hW1 := below1 w (Obj.cells #[.slice p1 banks.length c1, .int .u16 entry, .int .u16 vector, .slice p2 data.length c2, .slice p3 l.length c3] 30)
  have y0 : (w.alloc (Obj.cells #[.slice p1 banks.length c1, .int .u16 entry, .int .u16 vector, .slice p2 data.length c2, .slice p3 l.length c3] 30)).cell? ⟨w.heap.size, 0, none⟩ = some (.slice p1 banks.length c1) := by simp
  have y3 : (w.alloc (Obj.cells #[.slice p1 banks.length c1, .int .u16 entry, .int .u16 vector, .slice p2 data.length c2, .slice p3 l.length c3] 30)).cell? ⟨w.heap.size, 3, none⟩ = some (.slice p2 data.length c2) := by simp
  have y4 : (w.alloc (Obj.cells #[.slice p1 banks.length c1, .int .u16 entry, .int .u16 vector, .slice p2 data.length c2, .slice p3 l.length c3] 30)).cell? ⟨w.heap.size, 4, none⟩ = some (.slice p3 l.length c3) := by simp
  have HS1 := Lib.hid (h1.kept hW1)
  have HD := Lib.hid (h2.kept hW1)
  have HR := Lib.hid (h3.kept hW1)
  have hBx : w.heap.size < (w.alloc (Obj.cells #[.slice p1 banks.length c1, .int .u16 entry, .int .u16 vector, .slice p2 data.length c2, .slice p3 l.length c3] 30)).heap.size := by simp
  have HFull := Lib.hid hF
  have hW1 := Lib.hid hW1
  clear h1 h2 h3 hF
  go_enter Try.func47, Try.ntmps47
  go_wp2_with fail
  obtain ⟨Bx, hBxe⟩ : ∃ Bx, w.heap.size = Bx := ⟨_, rfl⟩
  have hW1 : Hid (Below w.heap.size w (w.alloc (Obj.cells #[.slice p1 banks.length c1, .int .u16 entry, .int .u16 vector, .slice p2 data.length c2, .slice p3 l.length c3] 30))) := hW1
  generalize w.alloc (Obj.cells #[Value.slice p1 banks.length c1, Value.int IntKind.u16 entry, Value.int IntKind.u16 vector, Value.slice p2 data.length c2, Value.slice p3 l.length c3] 30) = W1 at *
  rw [hBxe] at y0 y3 y4 hBx ⊢
  have hW1 := hW1.out
  have hW1 := Lib.hid hW1
  clear hBxe
  go_loopw [12] (fun i wr => ∃ k : Nat, k ≤ l.length ∧ i = .int .i64 k ∧ Below W1.heap.size W1 wr ∧ firstRel banks data none l 0 = firstRel banks data (prevAt l k) (l.drop k) k) (fun i _ => l.length - (intOf i).toNat)
  case atStart => exact ⟨0, Nat.zero_le _, rfl, Below.refl _ _, rfl⟩
  case round =>
    obtain ⟨k, hk, rfl, hB, hf⟩ := hrel
    have HF := Lib.hid hf
    clear hf
    have hW1 := hW1.out
    have z0 := (hB.cell (p := ⟨Bx, 0, none⟩) hBx).trans y0
    have z3 := (hB.cell (p := ⟨Bx, 3, none⟩) hBx).trans y3
    have z4 := (hB.cell (p := ⟨Bx, 4, none⟩) hBx).trans y4
    have hwr := hB.size
    have zz0 : ∀ o, (wr.alloc o).cell? ⟨Bx, 0, none⟩ = some (.slice p1 banks.length c1) := fun o => ((below1 wr o).cell (p := ⟨Bx, 0, none⟩) (by simp <;> omega)).trans z0
    have zz4 : ∀ o, (wr.alloc o).cell? ⟨Bx, 4, none⟩ = some (.slice p3 l.length c3) := fun o => ((below1 wr o).cell (p := ⟨Bx, 4, none⟩) (by simp <;> omega)).trans z4
    by_cases hlt : k < l.length
    · obtain ⟨r, hok⟩ := at_some l k hlt
      obtain ⟨B, rfl, hBs, e0, e1, ⟨o0, o1⟩, ⟨o2, o3⟩⟩ := HR.out.kept hB k r hok
      have HK := Lib.hid hok
      clear hok
      by_cases hb : r.bad0 banks.length
      · have hh : relWrong banks data (prevAt l k) r = true := by unfold relWrong; rw [decide_eq_true (.inl hb)]; rfl
        have HH := Lib.hid (firstRel_hit banks data l k r _ HK.out hh)
        clear hh
        unfold RelI.bad0 at hb
        go_wp2
        all_goals
          go_ret
          exact ⟨by rw [HF.out, HH.out]; rfl, below_next hW1 (below_alloc hB _)⟩
      · have hnb := Lib.hid hb
        unfold RelI.bad0 at hb
        have b0 : 0 ≤ r.bank := by omega
        have b1 : r.bank < banks.length := by omega
        have b2 : r.off ≤ 4094 := by omega
        obtain ⟨s, hs⟩ := at_some banks r.bank.toNat (by omega)
        have hs4 : s.size = 4096 := HFull.out s (List.mem_of_getElem? hs)
        have hoff : r.off ≤ (s.size : Int) := by omega
        have hsm : (s.size : Int) ≤ 4096 := by omega
        have HX4 : Hid ((s.extract r.off.toNat s.size).size ≤ maxLen) := by
          show _ ≤ _
          rw [ByteArray.size_extract]; unfold maxLen; omega
        have hbk : bankOf banks r = s := by unfold bankOf; rw [hs]; rfl
        have GB : Hid (OkU16 (getI (s.extract r.off.toNat s.size))) := getI_bd _
        have hM : Hid (relMeets banks data r = (objFind (-1) (getI (s.extract r.off.toNat s.size)) data 0).2.2) := by
          show relMeets banks data r = _
          unfold relMeets relWord; rw [hbk]
        have Hs := Lib.hid hs
        clear hbk hb hs4 hs
        rcases (show k = 0 ∨ ∃ j, k = j + 1 from by cases k with | zero => exact .inl rfl | succ j => exact .inr ⟨j, rfl⟩) with rfl | ⟨j, rfl⟩
        · go_wp2_with fail

          have hBW : Below W1.heap.size W1 (wr.alloc (Obj.cells #[Value.int IntKind.i64 r.bank, Value.int IntKind.u16 r.off] 41)) := below_alloc hB _
          have x0 : (wr.alloc (Obj.cells #[Value.int IntKind.i64 r.bank, Value.int IntKind.u16 r.off] 41)).cell? ⟨wr.heap.size, 0, none⟩ = some (.int .i64 r.bank) := by simp [go_sem]
          have x1 : (wr.alloc (Obj.cells #[Value.int IntKind.i64 r.bank, Value.int IntKind.u16 r.off] 41)).cell? ⟨wr.heap.size, 1, none⟩ = some (.int .u16 r.off) := by simp [go_sem]
          have hsz : wr.heap.size < (wr.alloc (Obj.cells #[Value.int IntKind.i64 r.bank, Value.int IntKind.u16 r.off] 41)).heap.size := by simp <;> omega
          generalize wr.alloc (Obj.cells #[Value.int IntKind.i64 r.bank, Value.int IntKind.u16 r.off] 41) = wS at *
          obtain ⟨B1, rfl, hB1, g0, _⟩ := HS1.out.kept hBW r.bank.toNat s Hs.out
          have HD := Lib.hid (HD.out.kept hBW)
          have HA : Hid (∀ w' : World, Below wS.heap.size wS w' → w'.cell? ⟨wr.heap.size, 0, none⟩ = some (.int .i64 r.bank) ∧ w'.cell? ⟨wr.heap.size, 1, none⟩ = some (.int .u16 r.off) ∧ w'.cell? ⟨B1, r.bank.toNat, none⟩ = some (.string s) ∧ w'.cell? ⟨Bx, 0, none⟩ = some (.slice (some ⟨B1, 0, none⟩) banks.length c1) ∧ w'.cell? ⟨Bx, 3, none⟩ = some (.slice p2 data.length c2) ∧ Below wS.heap.size wS w') :=
            fun w' hb => ⟨(hb.cell (by simp <;> omega)).trans x0, (hb.cell (by simp <;> omega)).trans x1, (hb.cell (by simp <;> omega)).trans g0, (hb.cell (by have := hBW.size; simp <;> omega)).trans ((hBW.cell (by simp <;> omega)).trans y0), (hb.cell (by have := hBW.size; simp <;> omega)).trans ((hBW.cell (by simp <;> omega)).trans y3), hb⟩
          go_region_held3 (fun w' => w'.cell? ⟨wr.heap.size, 0, none⟩ = some (.int .i64 r.bank) ∧ w'.cell? ⟨wr.heap.size, 1, none⟩ = some (.int .u16 r.off) ∧ w'.cell? ⟨B1, r.bank.toNat, none⟩ = some (.string s) ∧ w'.cell? ⟨Bx, 0, none⟩ = some (.slice (some ⟨B1, 0, none⟩) banks.length c1) ∧ w'.cell? ⟨Bx, 3, none⟩ = some (.slice p2 data.length c2) ∧ Below wS.heap.size wS w')
            (first
              | exact HA.out _ (Below.drew (Below.refl _ _))
              | exact HA.out _ (keep6 (by assumption) h5)
              | assumption)
            (first
              | (go_at_call 62; refine (get_any _ _ HX4.out).mono ?_; rintro e w5 ⟨rfl, h5⟩)
              | (go_at_call 30; refine (objectAt_any _ _ _ _ _ _ L2.out (HD.out.kept (last6 (by assumption))) ⟨by omega, by omega⟩ GB.out).mono ?_; rintro e w5 ⟨rfl, h5⟩))
          have hend := below_next hBW (last6 (by assumption))
          clear HA
          by_cases hm : (objFind (-1) (getI (s.extract r.off.toNat s.size)) data 0).2.2 = true
          · have hh : relWrong banks data (prevAt l 0) r = false := by
              unfold relWrong; rw [decide_eq_false (by intro h; rcases h with h | h; exact hnb.out h; exact h), hM.out, hm]; rfl
            have HH := Lib.hid (firstRel_miss banks data l 0 r _ HK.out hh)
            clear hh
            go_wp2
            go_roundw
            case rel => exact ⟨0 + 1, by omega, by go_num, hend, by rw [HF.out, HH.out]⟩
            case measure => simp [intOf]; omega
          · have hm' : (objFind (-1) (getI (s.extract r.off.toNat s.size)) data 0).2.2 = false := by simpa using hm
            have hh : relWrong banks data (prevAt l 0) r = true := by
              unfold relWrong; rw [hM.out, hm']; simp
            have HH := Lib.hid (firstRel_hit banks data l 0 r _ HK.out hh)
            clear hh hm
            go_wp2
            go_ret
            exact ⟨by rw [HF.out, HH.out]; rfl, below_next hW1 hend⟩

        · obtain ⟨q, hq⟩ := at_some l j (by omega)
          obtain ⟨B', hBB, hBs', f0, f1, ⟨qa, qb⟩, ⟨qc, qd⟩⟩ := HR.out.kept hB j q hq
          obtain rfl : B = B' := by simpa using hBB
          have hL : Hid (RelI.late (prevAt l (j + 1)) r ↔ q.after r) := by show _ ↔ _; rw [prev_next, hq]; rfl
          clear hBB hBs' hq
          go_wp2_with fail
          have i0 : IntKind.i64.wrap (q.off + 1) = q.off + 1 := IntWalk.i64_in _ (by omega)
          have i1 : IntKind.i64.wrap r.off = r.off := IntWalk.i64_in _ (by omega)
          have i2 : IntKind.i64.wrap q.off = q.off := IntWalk.i64_in _ (by omega)
          have hBT : Below W1.heap.size W1 ((wr.alloc (Obj.cells #[Value.int IntKind.i64 r.bank, Value.int IntKind.u16 r.off] 41)).alloc (Obj.cells #[Value.int IntKind.i64 q.bank, Value.int IntKind.u16 q.off] 41)) := below_alloc (below_alloc hB _) _
          have x0 : ((wr.alloc (Obj.cells #[Value.int IntKind.i64 r.bank, Value.int IntKind.u16 r.off] 41)).alloc (Obj.cells #[Value.int IntKind.i64 q.bank, Value.int IntKind.u16 q.off] 41)).cell? ⟨wr.heap.size, 0, none⟩ = some (.int .i64 r.bank) := by simp [go_sem]
          have x1 : ((wr.alloc (Obj.cells #[Value.int IntKind.i64 r.bank, Value.int IntKind.u16 r.off] 41)).alloc (Obj.cells #[Value.int IntKind.i64 q.bank, Value.int IntKind.u16 q.off] 41)).cell? ⟨wr.heap.size, 1, none⟩ = some (.int .u16 r.off) := by simp [go_sem]
          have x2 : ((wr.alloc (Obj.cells #[Value.int IntKind.i64 r.bank, Value.int IntKind.u16 r.off] 41)).alloc (Obj.cells #[Value.int IntKind.i64 q.bank, Value.int IntKind.u16 q.off] 41)).cell? ⟨wr.heap.size + 1, 0, none⟩ = some (.int .i64 q.bank) := by simp [go_sem]
          have x3 : ((wr.alloc (Obj.cells #[Value.int IntKind.i64 r.bank, Value.int IntKind.u16 r.off] 41)).alloc (Obj.cells #[Value.int IntKind.i64 q.bank, Value.int IntKind.u16 q.off] 41)).cell? ⟨wr.heap.size + 1, 1, none⟩ = some (.int .u16 q.off) := by simp [go_sem]
          have hsT : wr.heap.size + 1 < ((wr.alloc (Obj.cells #[Value.int IntKind.i64 r.bank, Value.int IntKind.u16 r.off] 41)).alloc (Obj.cells #[Value.int IntKind.i64 q.bank, Value.int IntKind.u16 q.off] 41)).heap.size := by simp <;> omega
          generalize (wr.alloc (Obj.cells #[Value.int IntKind.i64 r.bank, Value.int IntKind.u16 r.off] 41)).alloc (Obj.cells #[Value.int IntKind.i64 q.bank, Value.int IntKind.u16 q.off] 41) = wT at *
          have HT : Hid (∀ w' : World, Below wT.heap.size wT w' → w'.cell? ⟨wr.heap.size, 0, none⟩ = some (.int .i64 r.bank) ∧ w'.cell? ⟨wr.heap.size, 1, none⟩ = some (.int .u16 r.off) ∧ w'.cell? ⟨wr.heap.size + 1, 0, none⟩ = some (.int .i64 q.bank) ∧ w'.cell? ⟨wr.heap.size + 1, 1, none⟩ = some (.int .u16 q.off)) :=
            fun w' hb => ⟨(hb.cell (by simp <;> omega)).trans x0, (hb.cell (by simp <;> omega)).trans x1, (hb.cell (by simp <;> omega)).trans x2, (hb.cell (by simp <;> omega)).trans x3⟩
          go_region_held3 (fun w' => w'.cell? ⟨wr.heap.size, 0, none⟩ = some (.int .i64 r.bank) ∧ w'.cell? ⟨wr.heap.size, 1, none⟩ = some (.int .u16 r.off) ∧ w'.cell? ⟨wr.heap.size + 1, 0, none⟩ = some (.int .i64 q.bank) ∧ w'.cell? ⟨wr.heap.size + 1, 1, none⟩ = some (.int .u16 q.off))
            (exact HT.out _ (by repeat (first | exact Below.refl _ _ | refine Below.drew ?_ | refine keep_alloc ?_ _)))
            (first
              | (go_at_call 77; refine (compare_any _ _ _).mono ?_; rintro e w2 ⟨rfl, rfl⟩)
              | (go_at_call 76; refine (or_any (cmpI q.bank r.bank) (cmpI (q.off + 1) r.off) _ _ _ (by simp [go_sem]) (by simp [go_sem])).mono ?_; rintro e w2 ⟨rfl, rfl⟩))
          have hE : ∀ o1, Below wT.heap.size wT (wT.alloc o1).drew := fun o1 => Below.drew (keep_alloc (Below.refl _ _) _)
          have HE := Lib.hid hE
          clear hE
          by_cases ha : q.after r
          · have h9 := (rcmp_after q r).2 ha
            have hh : relWrong banks data (prevAt l (j + 1)) r = true := by unfold relWrong; rw [decide_eq_true (.inr (hL.out.2 ha))]; rfl
            have HH := Lib.hid (firstRel_hit banks data l (j + 1) r _ HK.out hh)
            clear hh HT
            go_wp2
            go_ret
            exact ⟨by rw [HF.out, HH.out]; rfl, below_next hW1 (below_next hBT (HE.out _))⟩
          · have h9 := Int.not_le.1 (fun h => ha ((rcmp_after q r).1 h))
            have hna := Lib.hid ha
            clear ha
            go_wp2_with fail
            have hBV := below_next hBT (HE.out (Obj.cells #[Value.int IntKind.i64 (cmpI q.bank r.bank), Value.int IntKind.i64 (cmpI (q.off + 1) r.off)] 3))
            have v0 := (HT.out _ (HE.out (Obj.cells #[Value.int IntKind.i64 (cmpI q.bank r.bank), Value.int IntKind.i64 (cmpI (q.off + 1) r.off)] 3))).1
            have v1 := (HT.out _ (HE.out (Obj.cells #[Value.int IntKind.i64 (cmpI q.bank r.bank), Value.int IntKind.i64 (cmpI (q.off + 1) r.off)] 3))).2.1
            have hsV : wr.heap.size < ((wT.alloc (Obj.cells #[Value.int IntKind.i64 (cmpI q.bank r.bank), Value.int IntKind.i64 (cmpI (q.off + 1) r.off)] 3)).drew).heap.size := by simp <;> omega
            clear x0 x1 x2 x3 HT HE
            generalize (wT.alloc (Obj.cells #[Value.int IntKind.i64 (cmpI q.bank r.bank), Value.int IntKind.i64 (cmpI (q.off + 1) r.off)] 3)).drew = wV at *

            have hBW : Below W1.heap.size W1 (wV) := hBV
            have x0 := v0
            have x1 := v1
            have hsz := hsV
            generalize wV = wS at *
            obtain ⟨B1, rfl, hB1, g0, _⟩ := HS1.out.kept hBW r.bank.toNat s Hs.out
            have HD := Lib.hid (HD.out.kept hBW)
            have HA : Hid (∀ w' : World, Below wS.heap.size wS w' → w'.cell? ⟨wr.heap.size, 0, none⟩ = some (.int .i64 r.bank) ∧ w'.cell? ⟨wr.heap.size, 1, none⟩ = some (.int .u16 r.off) ∧ w'.cell? ⟨B1, r.bank.toNat, none⟩ = some (.string s) ∧ w'.cell? ⟨Bx, 0, none⟩ = some (.slice (some ⟨B1, 0, none⟩) banks.length c1) ∧ w'.cell? ⟨Bx, 3, none⟩ = some (.slice p2 data.length c2) ∧ Below wS.heap.size wS w') :=
              fun w' hb => ⟨(hb.cell (by simp <;> omega)).trans x0, (hb.cell (by simp <;> omega)).trans x1, (hb.cell (by simp <;> omega)).trans g0, (hb.cell (by have := hBW.size; simp <;> omega)).trans ((hBW.cell (by simp <;> omega)).trans y0), (hb.cell (by have := hBW.size; simp <;> omega)).trans ((hBW.cell (by simp <;> omega)).trans y3), hb⟩
            go_region_held3 (fun w' => w'.cell? ⟨wr.heap.size, 0, none⟩ = some (.int .i64 r.bank) ∧ w'.cell? ⟨wr.heap.size, 1, none⟩ = some (.int .u16 r.off) ∧ w'.cell? ⟨B1, r.bank.toNat, none⟩ = some (.string s) ∧ w'.cell? ⟨Bx, 0, none⟩ = some (.slice (some ⟨B1, 0, none⟩) banks.length c1) ∧ w'.cell? ⟨Bx, 3, none⟩ = some (.slice p2 data.length c2) ∧ Below wS.heap.size wS w')
              (first
                | exact HA.out _ (Below.drew (Below.refl _ _))
                | exact HA.out _ (keep6 (by assumption) h5)
                | assumption)
              (first
                | (go_at_call 62; refine (get_any _ _ HX4.out).mono ?_; rintro e w5 ⟨rfl, h5⟩)
                | (go_at_call 30; refine (objectAt_any _ _ _ _ _ _ L2.out (HD.out.kept (last6 (by assumption))) ⟨by omega, by omega⟩ GB.out).mono ?_; rintro e w5 ⟨rfl, h5⟩))
            have hend := below_next hBW (last6 (by assumption))
            clear HA
            by_cases hm : (objFind (-1) (getI (s.extract r.off.toNat s.size)) data 0).2.2 = true
            · have hh : relWrong banks data (prevAt l (j + 1)) r = false := by
                unfold relWrong; rw [decide_eq_false (by intro h; rcases h with h | h; exact hnb.out h; exact hna.out (hL.out.1 h)), hM.out, hm]; rfl
              have HH := Lib.hid (firstRel_miss banks data l (j + 1) r _ HK.out hh)
              clear hh
              go_wp2
              go_roundw
              case rel => exact ⟨(j + 1) + 1, by omega, by go_num, hend, by rw [HF.out, HH.out]⟩
              case measure => simp [intOf]; omega
            · have hm' : (objFind (-1) (getI (s.extract r.off.toNat s.size)) data 0).2.2 = false := by simpa using hm
              have hh : relWrong banks data (prevAt l (j + 1)) r = true := by
                unfold relWrong; rw [hM.out, hm']; simp
              have HH := Lib.hid (firstRel_hit banks data l (j + 1) r _ HK.out hh)
              clear hh hm
              go_wp2
              go_ret
              exact ⟨by rw [HF.out, HH.out]; rfl, below_next hW1 hend⟩

    · obtain rfl : k = l.length := by omega
      go_wp2
      go_ret
      exact ⟨by rw [HF.out, firstRel_end]; rfl, below_next hW1 hB⟩
end Go.Proofs.Ytgdiaaoekkdibaa
namespace Go.Proofs.Ytgdiaaoekkdibaa
set_option linter.unusedVariables false
open Go.RowKit
def firstBank : List ByteArray → Nat → Int
  | [], _ => -1
  | s :: l, n => if s.size = 4096 then firstBank l (n + 1) else n
theorem firstBank_hit (l : List ByteArray) (k : Nat) (s : ByteArray) (h : l[k]? = some s) (hh : ¬ s.size = 4096) : firstBank (l.drop k) k = k := by
  rw [drop_at l k s h]; simp [firstBank, hh]
theorem firstBank_miss (l : List ByteArray) (k : Nat) (s : ByteArray) (h : l[k]? = some s) (hh : s.size = 4096) : firstBank (l.drop k) k = firstBank (l.drop (k + 1)) (k + 1) := by
  rw [drop_at l k s h]; simp [firstBank, hh]
theorem firstBank_end (l : List ByteArray) : firstBank (l.drop l.length) l.length = -1 := by simp [firstBank]
theorem firstBank_full (l : List ByteArray) : ∀ n, Full l → firstBank l n = -1 := by
  induction l with
  | nil => intro n _; rfl
  | cons s l ih =>
    intro n h
    unfold firstBank
    rw [if_pos (h s (List.mem_cons_self ..))]
    exact ih _ (fun x hx => h x (List.mem_cons_of_mem _ hx))
theorem firstBank_not (l : List ByteArray) : ∀ n, ¬ Full l → 0 ≤ firstBank l n := by
  induction l with
  | nil => intro n h; exact absurd (fun x hx => by cases hx) h
  | cons s l ih =>
    intro n h
    unfold firstBank
    by_cases hs : s.size = 4096
    · rw [if_pos hs]
      exact ih _ (fun hl => h (fun x hx => by rcases List.mem_cons.1 hx with rfl | hx; exact hs; exact hl x hx))
    · rw [if_neg hs]; omega
theorem off_any (s : ByteArray) (b : Bool) (w : World) (hs : s.size ≤ maxLen) (hb : (s.size != 4096) = b) : Calls Try.prog 44 #[.string s] w fun e w' => e = .returned (.bool b) ∧ w = w' := by
  unfold maxLen at hs
  by_cases h : s.size = 4096
  · obtain rfl : b = false := by simp [← hb, h]
    clear hb
    go_enter Try.func44, Try.ntmps44
    go_wp2
    go_ret
    exact ⟨by simp, rfl⟩
  · obtain rfl : b = true := by simp [← hb, h]
    clear hb
    go_enter Try.func44, Try.ntmps44
    go_wp2
    go_ret
    refine ⟨?_, rfl⟩
    have : ¬ ((s.size : Int) = 4096) := by omega
    simp [this]
theorem index_any (p : Option Addr) (cap : Nat) (l : List ByteArray) (w : World) (hl : l.length ≤ maxLen) (ho : StrsAt w p l) :
    Calls Try.prog 74 #[.slice p l.length cap, .func (.func 44) #[] #[]] w fun e w' => e = .returned (.int .i64 (firstBank l 0)) ∧ w = w' := by
  unfold maxLen at hl
  have HO := Lib.hid ho
  clear ho
  go_enter Try.func74, Try.ntmps74
  go_wp2
  go_loop [8] (fun i => ∃ k : Nat, k ≤ l.length ∧ i = .int .i64 k ∧ firstBank l 0 = firstBank (l.drop k) k) (fun i => l.length - (intOf i).toNat)
  case atStart => exact ⟨0, Nat.zero_le _, rfl, rfl⟩
  case round =>
    obtain ⟨k, hk, rfl, hf⟩ := hrel
    have HF := Lib.hid hf
    clear hf
    by_cases hlt : k < l.length
    · obtain ⟨o, hok⟩ := at_some l k hlt
      obtain ⟨B, rfl, hBs, c0, hs⟩ := HO.out k o hok
      have HK := Lib.hid hok
      clear hok HO
      by_cases h4 : o.size = 4096
      · have HM := Lib.hid (firstBank_miss l k o HK.out h4)
        have hb : (o.size != 4096) = false := by simp [h4]
        go_wp2_with (go_at_call 44; refine (off_any _ _ _ hs hb).mono ?_; rintro e w' ⟨rfl, rfl⟩)
        go_round
        case rel => exact ⟨k + 1, by omega, by go_num, by rw [HF.out, HM.out]⟩
        case measure => simp [intOf]; omega
      · have HH := Lib.hid (firstBank_hit l k o HK.out h4)
        have hb : (o.size != 4096) = true := by simp [h4]
        go_wp2_with (go_at_call 44; refine (off_any _ _ _ hs hb).mono ?_; rintro e w' ⟨rfl, rfl⟩)
        go_ret
        exact ⟨by rw [HF.out, HH.out]; rfl, rfl⟩
    · obtain rfl : k = l.length := by omega
      go_wp2
      go_ret
      exact ⟨by rw [HF.out, firstBank_end]; rfl, rfl⟩
theorem contains_any (p : Option Addr) (cap : Nat) (l : List ByteArray) (b : Bool) (w : World) (hl : l.length ≤ maxLen) (ho : StrsAt w p l) (hb : decide (0 ≤ firstBank l 0) = b) :
    Calls Try.prog 45 #[.slice p l.length cap, .func (.func 44) #[] #[]] w fun e w' => e = .returned (.bool b) ∧ w = w' := by
  go_enter Try.func45, Try.ntmps45
  go_wp2_with (go_at_call 74; refine (index_any _ _ _ _ hl ho).mono ?_; rintro e w' ⟨rfl, rfl⟩)
  go_ret
  exact ⟨rfl, rfl⟩
theorem check22 (I : Img) (h : I.banks.length < 1 ∨ 64 < I.banks.length ∨ ¬ Full I.banks) : checkI I = 22 := if_pos h
theorem check2 (I : Img) (h : ¬ (I.banks.length < 1 ∨ 64 < I.banks.length ∨ ¬ Full I.banks)) (h2 : 512 < I.data.length ∨ 20000 < I.relocs.length) : checkI I = 2 := (if_neg h).trans (if_pos h2)
theorem check37 (I : Img) (h : ¬ (I.banks.length < 1 ∨ 64 < I.banks.length ∨ ¬ Full I.banks)) (h2 : ¬ (512 < I.data.length ∨ 20000 < I.relocs.length)) (h3 : 4096 ≤ I.entry ∨ 4096 ≤ I.vector ∨ 0 ≤ firstObj I.banks.length none I.data 0 ∨ 0 ≤ firstRel I.banks I.data none I.relocs 0) : checkI I = 37 := (if_neg h).trans ((if_neg h2).trans (if_pos h3))
theorem check0 (I : Img) (h : ¬ (I.banks.length < 1 ∨ 64 < I.banks.length ∨ ¬ Full I.banks)) (h2 : ¬ (512 < I.data.length ∨ 20000 < I.relocs.length)) (h3 : ¬ (4096 ≤ I.entry ∨ 4096 ≤ I.vector ∨ 0 ≤ firstObj I.banks.length none I.data 0 ∨ 0 ≤ firstRel I.banks I.data none I.relocs 0)) : checkI I = 0 := (if_neg h).trans ((if_neg h2).trans (if_neg h3))
set_option maxHeartbeats 2000000 in
theorem check_any (p1 : Option Addr) (c1 : Nat) (p2 : Option Addr) (c2 : Nat) (p3 : Option Addr) (c3 : Nat) (I : Img) (w : World) (hI : ImgAt w p1 p2 p3 I) :
    Calls Try.prog 18 #[imgV p1 c1 p2 c2 p3 c3 I] w fun e w' => e = .returned (.int .i64 (checkI I)) ∧ Below w.heap.size w w' := by
  obtain ⟨banks, entry, vector, data, l⟩ := I
  have hI0 := hI
  obtain ⟨h1, h2, h3, hE, hV, l1, l2, l3⟩ := hI
  dsimp only at h1 h2 h3 l1 l2 l3 hE hV
  show Calls Try.prog 18 #[.agg #[.slice p1 banks.length c1, .int .u16 entry, .int .u16 vector, .slice p2 data.length c2, .slice p3 l.length c3]] w fun e w' => e = .returned (.int .i64 (checkI ⟨banks, entry, vector, data, l⟩)) ∧ Below w.heap.size w w'
  obtain ⟨en0, en1⟩ := hE
  obtain ⟨v0, v1⟩ := hV
  have L1 := Lib.hid l1
  have L2 := Lib.hid l2
  unfold maxLen at l1 l2 l3
  have hW1 := below1 w (Obj.cells #[.slice p1 banks.length c1, .int .u16 entry, .int .u16 vector, .slice p2 data.length c2, .slice p3 l.length c3] 30)
  have y0 : (w.alloc (Obj.cells #[.slice p1 banks.length c1, .int .u16 entry, .int .u16 vector, .slice p2 data.length c2, .slice p3 l.length c3] 30)).cell? ⟨w.heap.size, 0, none⟩ = some (.slice p1 banks.length c1) := by simp
  have y1 : (w.alloc (Obj.cells #[.slice p1 banks.length c1, .int .u16 entry, .int .u16 vector, .slice p2 data.length c2, .slice p3 l.length c3] 30)).cell? ⟨w.heap.size, 1, none⟩ = some (.int .u16 entry) := by simp
  have y2 : (w.alloc (Obj.cells #[.slice p1 banks.length c1, .int .u16 entry, .int .u16 vector, .slice p2 data.length c2, .slice p3 l.length c3] 30)).cell? ⟨w.heap.size, 2, none⟩ = some (.int .u16 vector) := by simp
  have y3 : (w.alloc (Obj.cells #[.slice p1 banks.length c1, .int .u16 entry, .int .u16 vector, .slice p2 data.length c2, .slice p3 l.length c3] 30)).cell? ⟨w.heap.size, 3, none⟩ = some (.slice p2 data.length c2) := by simp
  have y4 : (w.alloc (Obj.cells #[.slice p1 banks.length c1, .int .u16 entry, .int .u16 vector, .slice p2 data.length c2, .slice p3 l.length c3] 30)).cell? ⟨w.heap.size, 4, none⟩ = some (.slice p3 l.length c3) := by simp
  have HI := Lib.hid (hI0.kept hW1)
  have hBx : w.heap.size < (w.alloc (Obj.cells #[.slice p1 banks.length c1, .int .u16 entry, .int .u16 vector, .slice p2 data.length c2, .slice p3 l.length c3] 30)).heap.size := by simp
  clear h1 h2 h3 hI0
  by_cases a0 : banks.length < 1
  · have HR := Lib.hid (check22 ⟨banks, entry, vector, data, l⟩ (.inl a0))
    go_enter Try.func18, Try.ntmps18
    go_wp2
    go_ret
    exact ⟨ret_int HR.out.symm, hW1⟩
  by_cases a1 : 64 < banks.length
  · have HR := Lib.hid (check22 ⟨banks, entry, vector, data, l⟩ (.inr (.inl a1)))
    go_enter Try.func18, Try.ntmps18
    go_wp2
    go_ret
    exact ⟨ret_int HR.out.symm, hW1⟩
  by_cases a2 : Full banks
  rotate_left
  · have HR := Lib.hid (check22 ⟨banks, entry, vector, data, l⟩ (.inr (.inr a2)))
    have hb : decide (0 ≤ firstBank banks 0) = true := decide_eq_true (firstBank_not _ _ a2)
    clear a2
    go_enter Try.func18, Try.ntmps18
    go_wp2_with (go_at_call 45; refine (contains_any _ _ _ _ _ L1.out HI.out.banks hb).mono ?_; rintro e w' ⟨rfl, rfl⟩)
    go_ret
    exact ⟨ret_int HR.out.symm, hW1⟩
  have hb : decide (0 ≤ firstBank banks 0) = false := by rw [firstBank_full _ _ a2]; rfl
  have HF := Lib.hid a2
  have HN : Hid (¬ (banks.length < 1 ∨ 64 < banks.length ∨ ¬ Full banks)) := by show ¬ _; intro h; rcases h with h | h | h; exact a0 h; exact a1 h; exact h a2
  clear a2
  by_cases a3 : 512 < data.length
  · have HR := Lib.hid (check2 ⟨banks, entry, vector, data, l⟩ HN.out (.inl a3))
    go_enter Try.func18, Try.ntmps18
    go_wp2_with (go_at_call 45; refine (contains_any _ _ _ _ _ L1.out HI.out.banks hb).mono ?_; rintro e w' ⟨rfl, rfl⟩)
    go_ret
    exact ⟨ret_int HR.out.symm, hW1⟩
  by_cases a4 : 20000 < l.length
  · have HR := Lib.hid (check2 ⟨banks, entry, vector, data, l⟩ HN.out (.inr a4))
    go_enter Try.func18, Try.ntmps18
    go_wp2_with (go_at_call 45; refine (contains_any _ _ _ _ _ L1.out HI.out.banks hb).mono ?_; rintro e w' ⟨rfl, rfl⟩)
    go_ret
    exact ⟨ret_int HR.out.symm, hW1⟩
  have HN2 : Hid (¬ (512 < data.length ∨ 20000 < l.length)) := by show ¬ _; omega
  by_cases a5 : 4096 ≤ entry
  · have HR := Lib.hid (check37 ⟨banks, entry, vector, data, l⟩ HN.out HN2.out (.inl a5))
    go_enter Try.func18, Try.ntmps18
    go_wp2_with (go_at_call 45; refine (contains_any _ _ _ _ _ L1.out HI.out.banks hb).mono ?_; rintro e w' ⟨rfl, rfl⟩)
    go_ret
    exact ⟨ret_int HR.out.symm, hW1⟩
  by_cases a6 : 4096 ≤ vector
  · have HR := Lib.hid (check37 ⟨banks, entry, vector, data, l⟩ HN.out HN2.out (.inr (.inl a6)))
    go_enter Try.func18, Try.ntmps18
    go_wp2_with (go_at_call 45; refine (contains_any _ _ _ _ _ L1.out HI.out.banks hb).mono ?_; rintro e w' ⟨rfl, rfl⟩)
    go_ret
    exact ⟨ret_int HR.out.symm, hW1⟩
  by_cases a7 : 0 ≤ firstObj banks.length none data 0
  · have HR := Lib.hid (check37 ⟨banks, entry, vector, data, l⟩ HN.out HN2.out (.inr (.inr (.inl a7))))
    go_enter Try.func18, Try.ntmps18
    go_wp2_with (first
      | (go_at_call 45; refine (contains_any _ _ _ _ _ L1.out HI.out.banks hb).mono ?_; rintro e w' ⟨rfl, rfl⟩)
      | (go_at_call 46; refine (badObject_any _ _ _ _ _ L2.out HI.out.data ⟨by omega, by omega⟩ (by omega)).mono ?_; rintro e w2 ⟨rfl, h2⟩))
    go_ret
    exact ⟨ret_int HR.out.symm, below_next hW1 h2⟩
  by_cases a8 : 0 ≤ firstRel banks data none l 0
  · have HR := Lib.hid (check37 ⟨banks, entry, vector, data, l⟩ HN.out HN2.out (.inr (.inr (.inr a8))))
    go_enter Try.func18, Try.ntmps18
    go_wp2_with (first
      | (go_at_call 45; refine (contains_any _ _ _ _ _ L1.out HI.out.banks hb).mono ?_; rintro e w' ⟨rfl, rfl⟩)
      | (go_at_call 46; refine (badObject_any _ _ _ _ _ L2.out HI.out.data ⟨by omega, by omega⟩ (by omega)).mono ?_; rintro e w2 ⟨rfl, h2⟩; have z0 := (h2.cell (p := ⟨w.heap.size, 0, none⟩) hBx).trans y0; have z1 := (h2.cell (p := ⟨w.heap.size, 1, none⟩) hBx).trans y1; have z2 := (h2.cell (p := ⟨w.heap.size, 2, none⟩) hBx).trans y2; have z3 := (h2.cell (p := ⟨w.heap.size, 3, none⟩) hBx).trans y3; have z4 := (h2.cell (p := ⟨w.heap.size, 4, none⟩) hBx).trans y4)
      | (go_at_call 47; refine (badReloc_any p1 c1 p2 c2 p3 c3 ⟨banks, entry, vector, data, l⟩ _ (HI.out.kept h2) HF.out).mono ?_; rintro e w3 ⟨rfl, h3⟩))
    go_ret
    exact ⟨ret_int HR.out.symm, below_next hW1 (below_next h2 h3)⟩
  have HR : Hid (checkI ⟨banks, entry, vector, data, l⟩ = 0) := by
    show _ = _
    refine check0 ⟨banks, entry, vector, data, l⟩ HN.out HN2.out ?_
    intro h; rcases h with h | h | h | h
    · exact a5 h
    · exact a6 h
    · exact a7 h
    · exact a8 h
  go_enter Try.func18, Try.ntmps18
  go_wp2_with (first
      | (go_at_call 45; refine (contains_any _ _ _ _ _ L1.out HI.out.banks hb).mono ?_; rintro e w' ⟨rfl, rfl⟩)
      | (go_at_call 46; refine (badObject_any _ _ _ _ _ L2.out HI.out.data ⟨by omega, by omega⟩ (by omega)).mono ?_; rintro e w2 ⟨rfl, h2⟩; have z0 := (h2.cell (p := ⟨w.heap.size, 0, none⟩) hBx).trans y0; have z1 := (h2.cell (p := ⟨w.heap.size, 1, none⟩) hBx).trans y1; have z2 := (h2.cell (p := ⟨w.heap.size, 2, none⟩) hBx).trans y2; have z3 := (h2.cell (p := ⟨w.heap.size, 3, none⟩) hBx).trans y3; have z4 := (h2.cell (p := ⟨w.heap.size, 4, none⟩) hBx).trans y4)
      | (go_at_call 47; refine (badReloc_any p1 c1 p2 c2 p3 c3 ⟨banks, entry, vector, data, l⟩ _ (HI.out.kept h2) HF.out).mono ?_; rintro e w3 ⟨rfl, h3⟩))
  go_ret
  exact ⟨ret_int HR.out.symm, below_next hW1 (below_next h2 h3)⟩
end Go.Proofs.Ytgdiaaoekkdibaa
