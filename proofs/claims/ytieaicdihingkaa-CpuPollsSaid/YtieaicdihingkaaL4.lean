/- CpuPolls: the walk. -/
import Derived.Test.YtieaicdihingkaaPQ
import Derived.Test.YtieaicdihingkaaHK
import Derived.ChangeKeysEq
namespace Go.Proofs.Ytieaicdihingkaa
set_option linter.unusedVariables false
set_option linter.unusedSimpArgs false
open Go.RowKit
theorem neq37 (R : Nat → Int) (W : World) : (binOp .neq 37 (.agg #[.int .u16 (R 0), .int .u16 (R 1), .int .u16 (R 2), .int .u16 (R 3), .int .u16 (R 4), .int .u16 (R 5), .int .u16 (R 6), .int .u16 (R 7)]) (.agg #[.int .u16 (R 0), .int .u16 (R 1), .int .u16 (R 2), .int .u16 (R 3), .int .u16 (R 4), .int .u16 (R 5), .int .u16 (R 6), .int .u16 (R 7)])).run Try.prog W = .ok (.bool false) W := by
  obtain ⟨i, hi⟩ : ∃ i, Try.prog.info? 22 = some i := by
    have := info22
    cases h : Try.prog.info? 22 with
    | none => rw [h] at this; cases this
    | some i => exact ⟨i, rfl⟩
  rw [run_neq_struct, run_equalIn_array W 9999 _ _ Try.underlying37 hi, show Try.prog.cellsOf 22 = 1 by kernel_rfl, show List.range 8 = [0, 1, 2, 3, 4, 5, 6, 7] from rfl]
  simp [Op.eqItems, go_sem]
theorem ba_app (l m : List UInt8) : (⟨l.toArray⟩ : ByteArray) ++ ⟨m.toArray⟩ = ⟨(l ++ m).toArray⟩ := by
  apply ByteArray.ext
  simp [ByteArray.data_append]
theorem want_succ {l : List Int} {k : Nat} {q : Int} (h : l[k]? = some q) : wantI (l.take (k + 1)) = wantI (l.take k) + if q = 0 then 0 else 1 := by
  unfold wantI
  have e : l.take (k + 1) = l.take k ++ [q] := by rw [List.take_add_one, h]; rfl
  rw [e, List.filter_append, List.length_append]
  congr 1
  by_cases hq : q = 0 <;> simp [hq]
theorem want_le (l : List Int) : wantI l ≤ l.length := List.length_filter_le _ _
theorem qm_ok {R : Nat → Int} {f : Int} (hR : ∀ k, OkU16 (R k)) (hf : 0 ≤ f ∧ f < 16) : (qm R f 0 0 []).Ok := by
  obtain ⟨a1, a2, a3, a4, a5, a6, a7, a8, a9, a10, a11, a12, a13, a14⟩ := startM_ok ok16_0
  exact ⟨hR, (show OkU16 0 from ok16_0), a3, (show OkU16 321 from ⟨by decide, by decide⟩), ⟨hf.1, by have := hf.2; show f < 65536; omega⟩, a6, ok64_0, a8, ok64_0, a10, a11, a12, a13, a14⟩
set_option maxRecDepth 20000 in
set_option maxHeartbeats 8000000 in
theorem polls_pick (p : Option Addr) (cap : Nat) (irq : List Int) (R : Nat → Int) (f : Int) (w : World) (hin : RowLow w.heap.size w p .u8 irq) (hcap : irq.length ≤ cap) (hl : irq.length ≤ 9223372036854775807) (hok : ∀ x ∈ irq, 0 ≤ x ∧ x < 256) (hR : ∀ k, OkU16 (R k)) (hf : 0 ≤ f ∧ f < 256) :
    Calls Try.prog 4 #[.slice p irq.length cap, .agg #[.int .u16 (R 0), .int .u16 (R 1), .int .u16 (R 2), .int .u16 (R 3), .int .u16 (R 4), .int .u16 (R 5), .int .u16 (R 6), .int .u16 (R 7)], .int .u8 f] w (EvPost w true) := by
  have HIN := Lib.hid hin
  have HOK := Lib.hid hok
  have HR := Lib.hid hR
  have HF := Lib.hid hf
  obtain ⟨n, hn⟩ : ∃ n, min irq.length 12 = n := ⟨_, rfl⟩
  have HN : Hid ((irq.take 12).length = n) := Lib.hid (by rw [List.length_take]; omega)
  have HNL : Hid (n ≤ irq.length) := Lib.hid (by omega)
  have HN12 : Hid (n ≤ 12) := Lib.hid (by omega)
  have HTK : Hid (irq.take n = irq.take 12) := Lib.hid (by
    rcases Nat.lt_or_ge irq.length 12 with h | h
    · rw [List.take_of_length_le (by omega), List.take_of_length_le (by omega)]
    · rw [show n = 12 by omega])
  have mA : (if (12 : Int) < (irq.length : Int) then (12 : Int) else (irq.length : Int)) = (n : Int) := by split <;> omega
  have mB : (if 12 < irq.length then (12 : Int) else (irq.length : Int)) = (n : Int) := by split <;> omega
  have m0 : (0 : Int) ≤ (n : Int) := by omega
  have m3 : (n : Int) ≤ (cap : Int) := by omega
  have m4 : n ≤ cap := by omega
  clear hin hok hR hf hn hcap hl
  go_enter Try.func4, Try.ntmps4
  go_upto_region 1 with (fail)
  generalize e0 : w.alloc _ = W0
  have HRB0 := Lib.hid (al_blk e0)
  have HB0 := Lib.hid (al_bel e0)
  clear e0
  go_wp2_with fail
  refine (sanity_any _).mono ?_
  rintro e w1 ⟨rfl, h1⟩
  have HB1 := Lib.hid (below_next HB0.out h1)
  have HRB1 := Lib.hid (at_next h1 HRB0.out)
  clear h1 HB0 HRB0
  go_wp2_with fail
  clear m3 m4 mA mB m0
  go_loopw [8, 9, 10] (fun s_ c_ i_ wr => ∃ k : Nat, k ≤ n ∧ i_ = .int .i64 (k : Int) ∧ s_ = .string ⟨(List.replicate k 4).toArray⟩ ∧ c_ = .int .i64 ((wantI (irq.take k) : Nat) : Int) ∧ wr = w1) (fun _ _ i_ _ => n - (intOf i_).toNat)
  case atStart => exact ⟨0, Nat.zero_le _, rfl, rfl, rfl, rfl⟩
  case round =>
    obtain ⟨k, hk, rfl, rfl, rfl, rfl⟩ := hrel
    have HK := Lib.hid hk
    obtain ⟨S, hS⟩ : ∃ S : ByteArray, (⟨(List.replicate k 4).toArray⟩ : ByteArray) = S := ⟨_, rfl⟩
    have hSz : S.size = k := by
      rw [← hS]
      show (List.replicate k (4 : UInt8)).toArray.size = k
      simp
    have HSz := Lib.hid hSz
    by_cases hlt : k < n
    · have b0 : decide ((k : Int) < (n : Int)) = true := decide_eq_true (by omega)
      have b1 : decide (k < n) = true := decide_eq_true hlt
      have HLT := Lib.hid hlt
      have x2 : IntKind.i64.wrap ((k : Int) + 1) = (k : Int) + 1 := IntWalk.i64_in _ (by have := HN12.out; omega)
      obtain ⟨c, hc9⟩ : ∃ c : Nat, wantI (irq.take k) = c := ⟨_, rfl⟩
      have hcl : c ≤ 12 := by
        rw [← hc9]
        have := want_le (irq.take k)
        rw [List.length_take] at this
        have := HN12.out
        omega
      have x3 : IntKind.i64.wrap ((c : Int) + 1) = (c : Int) + 1 := IntWalk.i64_in _ (by omega)
      have HS : Hid (S ++ ⟨#[4]⟩ = ⟨(List.replicate (k + 1) 4).toArray⟩) := Lib.hid (by
        rw [← hS, List.replicate_succ']
        exact ba_app _ [4])
      obtain ⟨q, hq⟩ := at_some irq k (by have := HNL.out; omega)
      have HW := Lib.hid (want_succ hq)
      rw [hc9] at HW
      obtain ⟨B, off, eB, hB, hcq⟩ := HIN.out k q hq
      subst eB
      have hc1 : wr.cell? ⟨B, off + k, none⟩ = some (.int .u8 q) := (HB1.out.cell (p := ⟨B, off + k, none⟩) hB).trans hcq
      have i0 : (0 : Int) ≤ (k : Int) := by omega
      have i1 : (k : Int) < (n : Int) := by omega
      rw [hS, hc9]
      have z1 : ¬ 9223372036854775807 < S.size + 1 := by rw [hSz]; have := HN12.out; omega
      have t1 : (⟨#[4]⟩ : ByteArray).size = 1 := rfl
      clear hS hk hq hB hcq hcl hc9 hSz
      by_cases hq0 : q = 0
      · subst hq0
        clear hlt
        go_wp2_with fail
        go_roundw
        case rel => exact ⟨k + 1, by have := HLT.out; omega, by go_num, by rw [HS.out], by rw [HW.out]; rfl, trivial⟩
        case measure => have := HLT.out; simp only [intOf]; omega
      · have g1 : (q == 0) = false := by rw [beq_eq_false_iff_ne]; exact hq0
        have HQ0 := Lib.hid hq0
        clear hlt
        go_wp2_with fail
        go_roundw
        case rel => exact ⟨k + 1, by have := HLT.out; omega, by go_num, by rw [HS.out], by rw [HW.out, if_neg HQ0.out]; go_num, trivial⟩
        case measure => have := HLT.out; simp only [intOf]; omega
    · obtain rfl : k = n := by omega
      have b0 : decide ((k : Int) < (k : Int)) = false := decide_eq_false (by omega)
      have b1 : decide (k < k) = false := decide_eq_false (by omega)
      have HS : Hid (S ++ ⟨#[4, 2]⟩ = pollsB k) := Lib.hid (by
        rw [← hS]
        exact ba_app _ [4, 2])
      have z1 : ¬ 9223372036854775807 < S.size + 2 := by rw [hSz]; have := HN12.out; omega
      have t1 : (⟨#[4, 2]⟩ : ByteArray).size = 2 := rfl
      have HPS : Hid ((pollsB k).size ≤ 1000000000000) := Lib.hid (by
        rw [← HS.out, ByteArray.size_append, hSz]
        have := HN12.out
        show k + 2 ≤ 1000000000000
        omega)
      rw [hS, HTK.out]
      obtain ⟨c, hc9⟩ : ∃ c : Nat, wantI (irq.take 12) = c := ⟨_, rfl⟩
      have HC := Lib.hid hc9
      rw [hc9]
      clear hS hk hlt hSz hc9
      go_wp2_with fail
      rw [HS.out]
      refine (image_any2 (pollsB k) _ HPS.out).mono ?_
      rintro e w3 ⟨g3, rfl, hg3, hlo, h3⟩
      obtain ⟨PB, hPB⟩ : ∃ PB, pageB 0 (pollsB k) = PB := ⟨_, rfl⟩
      have hz : PB.size = 4096 := by rw [← hPB]; exact pageB_size _ _
      have HZ := Lib.hid hz
      have HPP : Hid (PB.extract 0 100 ++ ⟨#[145, 2, 5, 48, 2, 99, 18, 1, 3]⟩ ++ PB.extract 109 4096 = pollsP k) := Lib.hid (by rw [← hPB]; rfl)
      rw [hPB] at hg3
      have HB3 := Lib.hid (below_next HB1.out h3)
      have HRB3 := Lib.hid (at_next h3 HRB1.out)
      have HLO := Lib.hid (Nat.le_trans HB1.out.size hlo)
      have HNG : Hid (g3 ≠ w.heap.size) := Lib.hid (by have := at_lt HRB1.out; omega)
      have HNI : Hid (w3.heap.size ≠ w.heap.size) := Lib.hid (by have := at_lt HRB3.out; omega)
      have HLI := Lib.hid HB3.out.size
      have HG3 := Lib.hid hg3
      clear h3 hPB hg3 t1 z1 b0 b1 hlo HB1 HRB1 HS HPS
      go_upto_region 12 with (fail)
      generalize e4 : w3.alloc _ = W4
      have hb4 := al_bel e4
      have HI4 := Lib.hid (al_blk e4)
      have HB4 := Lib.hid (below_next HB3.out hb4)
      have HRB4 := Lib.hid (at_next hb4 HRB3.out)
      have HG4 := Lib.hid (at_next hb4 HG3.out)
      have HGE : Hid (w3.heap.size ≠ g3) := Lib.hid (by have := at_lt HG3.out; omega)
      clear hb4 e4 HRB3 HG3
      have KI : Hid (∀ W, Below W4.heap.size W4 W → W.cell? ⟨w3.heap.size, 0, none⟩ = some (.slice (some ⟨g3, 0, none⟩) 1 1) ∧ W.cell? ⟨g3, 0, none⟩ = some (.string PB)) := Lib.hid fun W hW => ⟨Lib.cell_of_heap (at_next hW HI4.out) 0, Lib.cell_of_heap (at_next hW HG4.out) 0⟩
      have t1 : (⟨#[145, 2, 5, 48, 2, 99, 18, 1, 3]⟩ : ByteArray).size = 9 := rfl
      have z1 : ¬ PB.size < 100 := by omega
      have z2 : ¬ PB.size < 109 := by omega
      have z3 : 100 ≤ PB.size := by omega
      have z4 : 109 ≤ PB.size := by omega
      have s1 : (PB.extract 0 100).size = 100 := by rw [ByteArray.size_extract]; omega
      have s2 : (PB.extract 0 100 ++ ⟨#[145, 2, 5, 48, 2, 99, 18, 1, 3]⟩ : ByteArray).size = 109 := by rw [ByteArray.size_append, s1]; rfl
      have s3 : (PB.extract 109 4096).size = 3987 := by rw [ByteArray.size_extract]; omega
      refine' wp_region_flowR9 [[], [(40, 0)], [], [(42, 2)], [(43, 3)], [(44, 4)], [(45, 5)], [(46, 6)], [], [(48, 8)], [(49, 9)], [(50, 10)], [(51, 11)], [(47, 7), (52, 12)], [(41, 1)], [(40, 0), (41, 1), (42, 2), (43, 3), (44, 4), (45, 5), (46, 6), (47, 7), (48, 8), (49, 9), (50, 10), (51, 11), (52, 12), (53, 13), (54, 14)]] (relL [eqV _, eqV _, eqV _, eqV _, eqV _, eqV _, eqV _, eqV _, eqV _, eqV _, eqV _, eqV _, eqV _, eqV _, eqV _]) (by kernel_rfl) (by kernel_rfl) ?_
      rotate_left 15
      refine FlowR.step ?_ ?_
      · intro V hV
        simp only [Dep, Act.put, lA, lZ, lS]
        intro K hK
        go_simp
        refine hK _ _ ?_ (Below.refl _ _)
        simp only [relL, List.getElem?_cons_zero, List.getElem?_cons_succ, eqV]
        exact rfl
      refine FlowR.step ?_ ?_
      · intro V hV
        simp only [Dep, Act.put, lA, lZ, lS]
        rintro x40 ⟨V40, rfl, hb40⟩
        intro K hK
        obtain ⟨c0, cg⟩ := KI.out _ hV
        go_simp
        refine hK _ _ ?_ (Below.refl _ _)
        simp only [relL, List.getElem?_cons_zero, List.getElem?_cons_succ, eqV]
        exact rfl
      refine FlowR.step ?_ ?_
      · intro V hV
        simp only [Dep, Act.put, lA, lZ, lS]
        intro K hK
        go_simp
        refine hK _ _ ?_ (Below.refl _ _)
        simp only [relL, List.getElem?_cons_zero, List.getElem?_cons_succ, eqV]
        exact rfl
      refine FlowR.step ?_ ?_
      · intro V hV
        simp only [Dep, Act.put, lA, lZ, lS]
        rintro x42 ⟨V42, rfl, hb42⟩
        intro K hK
        obtain ⟨c0, cg⟩ := KI.out _ hV
        go_simp
        refine hK _ _ ?_ (Below.refl _ _)
        simp only [relL, List.getElem?_cons_zero, List.getElem?_cons_succ, eqV]
        exact rfl
      refine FlowR.step ?_ ?_
      · intro V hV
        simp only [Dep, Act.put, lA, lZ, lS]
        rintro x43 ⟨V43, rfl, hb43⟩
        intro K hK
        go_simp
        refine hK _ _ ?_ (Below.refl _ _)
        simp only [relL, List.getElem?_cons_zero, List.getElem?_cons_succ, eqV]
        exact rfl
      refine FlowR.step ?_ ?_
      · intro V hV
        simp only [Dep, Act.put, lA, lZ, lS]
        rintro x44 ⟨V44, rfl, hb44⟩
        intro K hK
        obtain ⟨c0, cg⟩ := KI.out _ hV
        go_simp
        refine hK _ _ ?_ (Below.refl _ _)
        simp only [relL, List.getElem?_cons_zero, List.getElem?_cons_succ, eqV]
        exact rfl
      refine FlowR.step ?_ ?_
      · intro V hV
        simp only [Dep, Act.put, lA, lZ, lS]
        rintro x45 ⟨V45, rfl, hb45⟩
        intro K hK
        go_simp
        refine hK _ _ ?_ (Below.refl _ _)
        simp only [relL, List.getElem?_cons_zero, List.getElem?_cons_succ, eqV]
        exact rfl
      refine FlowR.step ?_ ?_
      · intro V hV
        simp only [Dep, Act.put, lA, lZ, lS]
        rintro x46 ⟨V46, rfl, hb46⟩
        intro K hK
        go_simp
        refine hK _ _ ?_ (Below.refl _ _)
        simp only [relL, List.getElem?_cons_zero, List.getElem?_cons_succ, eqV]
        exact rfl
      refine FlowR.step ?_ ?_
      · intro V hV
        simp only [Dep, Act.put, lA, lZ, lS]
        intro K hK
        go_simp
        refine hK _ _ ?_ (Below.refl _ _)
        simp only [relL, List.getElem?_cons_zero, List.getElem?_cons_succ, eqV]
        exact rfl
      refine FlowR.step ?_ ?_
      · intro V hV
        simp only [Dep, Act.put, lA, lZ, lS]
        rintro x48 ⟨V48, rfl, hb48⟩
        intro K hK
        obtain ⟨c0, cg⟩ := KI.out _ hV
        go_simp
        refine hK _ _ ?_ (Below.refl _ _)
        simp only [relL, List.getElem?_cons_zero, List.getElem?_cons_succ, eqV]
        exact rfl
      refine FlowR.step ?_ ?_
      · intro V hV
        simp only [Dep, Act.put, lA, lZ, lS]
        rintro x49 ⟨V49, rfl, hb49⟩
        intro K hK
        go_simp
        refine hK _ _ ?_ (Below.refl _ _)
        simp only [relL, List.getElem?_cons_zero, List.getElem?_cons_succ, eqV]
        exact rfl
      refine FlowR.step ?_ ?_
      · intro V hV
        simp only [Dep, Act.put, lA, lZ, lS]
        rintro x50 ⟨V50, rfl, hb50⟩
        intro K hK
        obtain ⟨c0, cg⟩ := KI.out _ hV
        go_simp
        refine hK _ _ ?_ (Below.refl _ _)
        simp only [relL, List.getElem?_cons_zero, List.getElem?_cons_succ, eqV]
        exact rfl
      refine FlowR.step ?_ ?_
      · intro V hV
        simp only [Dep, Act.put, lA, lZ, lS]
        rintro x51 ⟨V51, rfl, hb51⟩
        intro K hK
        go_simp
        refine hK _ _ ?_ (Below.refl _ _)
        simp only [relL, List.getElem?_cons_zero, List.getElem?_cons_succ, eqV]
        exact rfl
      refine FlowR.step ?_ ?_
      · intro V hV
        simp only [Dep, Act.put, lA, lZ, lS]
        rintro x47 ⟨V47, rfl, hb47⟩
        rintro x52 ⟨V52, rfl, hb52⟩
        intro K hK
        go_simp
        refine hK _ _ ?_ (Below.refl _ _)
        simp only [relL, List.getElem?_cons_zero, List.getElem?_cons_succ, eqV]
        exact rfl
      refine FlowR.step ?_ ?_
      · intro V hV
        simp only [Dep, Act.put, lA, lZ, lS]
        rintro x41 ⟨V41, rfl, hb41⟩
        intro K hK
        go_simp
        refine hK _ _ ?_ (Below.refl _ _)
        simp only [relL, List.getElem?_cons_zero, List.getElem?_cons_succ, eqV]
        exact rfl
      refine FlowR.last ?_
      intro V hV
      simp only [Dep, Act.put, lA, lZ, lS]
      rintro x40 ⟨V40, rfl, hb40⟩
      rintro x41 ⟨V41, rfl, hb41⟩
      rintro x42 ⟨V42, rfl, hb42⟩
      rintro x43 ⟨V43, rfl, hb43⟩
      rintro x44 ⟨V44, rfl, hb44⟩
      rintro x45 ⟨V45, rfl, hb45⟩
      rintro x46 ⟨V46, rfl, hb46⟩
      rintro x47 ⟨V47, rfl, hb47⟩
      rintro x48 ⟨V48, rfl, hb48⟩
      rintro x49 ⟨V49, rfl, hb49⟩
      rintro x50 ⟨V50, rfl, hb50⟩
      rintro x51 ⟨V51, rfl, hb51⟩
      rintro x52 ⟨V52, rfl, hb52⟩
      rintro x53 ⟨V53, rfl, hb53⟩
      rintro x54 ⟨V54, rfl, hb54⟩
      intro K hK
      have hg5 := at_next hV HG4.out
      have cg := Lib.cell_of_heap hg5 0
      have zg := at_fr hg5 0
      go_simp
      refine hK _ _ ?_
      clear hK
      rw [HPP.out]
      generalize e5 : World.setCell _ _ _ = W5
      have HG5 : Hid (W5.heap[g3]? = some (.cells #[.string (pollsP k)] 9 (0, 0))) := Lib.hid (sc_blk hg5 e5)
      have HI5 := Lib.hid (sc_oth HGE.out.symm (at_next hV HI4.out) e5)
      have HRB5 := Lib.hid (sc_oth HNG.out (at_next hV HRB4.out) e5)
      have HB5 := Lib.hid (sc_bel (below_next HB4.out hV) HLO.out e5)
      clear hg5 cg zg e5 hV s1 s2 s3 z1 z2 z3 z4 t1 hz
      have y2 : W5.cell? ⟨w3.heap.size, 2, none⟩ = some (.int .u16 0) := Lib.cell_of_heap HI5.out 2
      have z2 := at_fr HI5.out 2
      go_upto_region 14 with (fail)
      generalize e6 : World.setCell _ _ _ = W6
      have HI6 : Hid (W6.heap[w3.heap.size]? = some (.cells #[.slice (some ⟨g3, 0, none⟩) 1 1, .int .u16 0, .int .u16 100, .slice none 0 0, .slice none 0 0] 35 (0, 0))) := Lib.hid (by
        have h9 := sc_blk HI5.out e6
        simp only [lA, lZ, lS] at h9
        exact h9)
      have HG6 := Lib.hid (sc_oth HGE.out HG5.out e6)
      have HRB6 := Lib.hid (sc_oth HNI.out HRB5.out e6)
      have HB6 := Lib.hid (sc_bel HB5.out HLI.out e6)
      clear y2 z2 e6 HI5 HG5 HRB5 HB5 KI HB4 HRB4 HG4 HI4
      go_wp2_with (refine wpList_load_row 35 _ rfl rfl w3.heap.size rfl #[.slice (some ⟨g3, 0, none⟩) 1 1, .int .u16 0, .int .u16 100, .slice none 0 0, .slice none 0 0] HI6.out Try.underlying35 info35 ?_)
      refine (refStart_any (E := { imgE g3 (pollsP k) with vector := 100 }) ⟨strs_one HG6.out (by rw [pollsP_size]; decide), (by decide : 1 ≤ maxLen), ok16_0, (show OkU16 100 from ⟨by decide, by decide⟩)⟩).mono ?_
      rintro e w7 ⟨C7, rfl, hs7, h7⟩
      obtain ⟨p1, c1, p2, c2, rfl, hin7⟩ := hs7.cells
      obtain ⟨RS, hRS⟩ : ∃ RS, ramS (fun _ => 0) = RS := ⟨_, rfl⟩
      have HRS := Lib.hid hRS
      rw [hRS]
      have HH7 := Lib.hid h7
      have HIN7 := Lib.hid hin7
      clear hs7 h7 hin7 hRS
      go_wp2_with (refine wpList_store_row 43 _ _ rfl rfl w7.heap.size rfl (snC (startM 0) RS (.slice p1 2 c1) (.slice p2 0 c2)) rfl (alloc_at w7 _) info43 rfl (snC_one _ _ _ _ _ _ _ _) ?_; refine Hid.out ?_)
      generalize e9 : World.setRow _ _ _ = W9
      have HL9 := Lib.hid (law_start HH7.out HIN7.out rfl e9)
      refine Lib.hid ?_
      clear e9 HH7 HIN7
      have hrb := at_next HL9.out.bel HRB6.out
      have b0 : W9.cell? ⟨w.heap.size, 0, none⟩ = some (.int .u16 (R 0)) := Lib.cell_of_heap hrb 0
      have b1 : W9.cell? ⟨w.heap.size, 1, none⟩ = some (.int .u16 (R 1)) := Lib.cell_of_heap hrb 1
      have b2 : W9.cell? ⟨w.heap.size, 2, none⟩ = some (.int .u16 (R 2)) := Lib.cell_of_heap hrb 2
      have b3 : W9.cell? ⟨w.heap.size, 3, none⟩ = some (.int .u16 (R 3)) := Lib.cell_of_heap hrb 3
      have b4 : W9.cell? ⟨w.heap.size, 4, none⟩ = some (.int .u16 (R 4)) := Lib.cell_of_heap hrb 4
      have b5 : W9.cell? ⟨w.heap.size, 5, none⟩ = some (.int .u16 (R 5)) := Lib.cell_of_heap hrb 5
      have b6 : W9.cell? ⟨w.heap.size, 6, none⟩ = some (.int .u16 (R 6)) := Lib.cell_of_heap hrb 6
      have b7 : W9.cell? ⟨w.heap.size, 7, none⟩ = some (.int .u16 (R 7)) := Lib.cell_of_heap hrb 7
      have y0 : W9.cell? ⟨w7.heap.size, 0, none⟩ = some (.int .u16 0) := HL9.out.cell 0
      have z0 := at_fr HL9.out.x 0
      have y1 : W9.cell? ⟨w7.heap.size, 1, none⟩ = some (.int .u16 0) := HL9.out.cell 1
      have z1 := at_fr HL9.out.x 1
      have y2 : W9.cell? ⟨w7.heap.size, 2, none⟩ = some (.int .u16 0) := HL9.out.cell 2
      have z2 := at_fr HL9.out.x 2
      have y3 : W9.cell? ⟨w7.heap.size, 3, none⟩ = some (.int .u16 0) := HL9.out.cell 3
      have z3 := at_fr HL9.out.x 3
      have y4 : W9.cell? ⟨w7.heap.size, 4, none⟩ = some (.int .u16 0) := HL9.out.cell 4
      have z4 := at_fr HL9.out.x 4
      have y5 : W9.cell? ⟨w7.heap.size, 5, none⟩ = some (.int .u16 0) := HL9.out.cell 5
      have z5 := at_fr HL9.out.x 5
      have y6 : W9.cell? ⟨w7.heap.size, 6, none⟩ = some (.int .u16 0) := HL9.out.cell 6
      have z6 := at_fr HL9.out.x 6
      have y7 : W9.cell? ⟨w7.heap.size, 7, none⟩ = some (.int .u16 0) := HL9.out.cell 7
      have z7 := at_fr HL9.out.x 7
      clear hrb
      go_upto_region 16 with (fail)
      generalize e10 : World.setCell _ _ _ = W10
      have HL10 : Hid (LawAt W6 w7.heap.size (snC { startM 0 with R := R } RS (.slice p1 2 c1) (.slice p2 0 c2)) (startM 0) (.slice p1 2 c1) (.slice p2 0 c2) W10) := Lib.hid (by
        have h := (((((((HL9.out.set rfl).set rfl).set rfl).set rfl).set rfl).set rfl).set rfl).set e10
        simp only [snC, lA, lZ, lS] at h
        exact h)
      clear e10 HL9 b0 y0 z0 b1 y1 z1 b2 y2 z2 b3 y3 z3 b4 y4 z4 b5 y5 z5 b6 y6 z6 b7 y7 z7
      have hf := HF.out
      have qa : f.tmod 16 = f % 16 := Int.tmod_eq_emod_of_nonneg hf.1
      have qb : IntKind.u8.wrap (f % 16) = f % 16 := by rw [IntKind.wrap_u8]; omega
      have qc : IntKind.u16.wrap (f % 16) = f % 16 := by rw [IntKind.wrap_u16]; omega
      have y0 : W10.cell? ⟨w7.heap.size, 11, none⟩ = some (.int .u16 0) := HL10.out.cell 11
      have z0 := at_fr HL10.out.x 11
      go_upto_region 17 with (fail)
      generalize e11 : World.setCell _ _ _ = W11
      have HL11 : Hid (LawAt W6 w7.heap.size (snC { startM 0 with R := R, f := f % 16 } RS (.slice p1 2 c1) (.slice p2 0 c2)) (startM 0) (.slice p1 2 c1) (.slice p2 0 c2) W11) := Lib.hid (by
        have h := HL10.out.set e11
        simp only [snC, lA, lZ, lS] at h
        exact h)
      clear e11 HL10 y0 z0
      have y0 : W11.cell? ⟨w7.heap.size, 10, none⟩ = some (.int .u16 0) := HL11.out.cell 10
      have z0 := at_fr HL11.out.x 10
      go_upto_region 18 with (fail)
      generalize e12 : World.setCell _ _ _ = W12
      have HL12 : Hid (LawAt W6 w7.heap.size (snC (qm R (f % 16) 0 0 []) RS (.slice p1 2 c1) (.slice p2 0 c2)) (startM 0) (.slice p1 2 c1) (.slice p2 0 c2) W12) := Lib.hid (by
        have h := HL11.out.set e12
        simp only [snC, lA, lZ, lS] at h
        exact h)
      clear e12 HL11 y0 z0 hf
      have HX : Hid (Calls Try.prog 14 #[.agg #[.slice (some ⟨g3, 0, none⟩) 1 1, .int .u16 0, .int .u16 100, .slice none 0 0, .slice none 0 0], .agg #[.slice none 0 0, .slice p k cap], .agg (snC (qm R (f % 16) 0 0 []) RS (.slice p1 2 c1) (.slice p2 0 c2)), .int .i64 1000] W12 (fun e w' => ∃ s : Int, RanPost W12 (qend R (f % 16) k s c, (1, 0)) e w')) := Lib.hid (by
        have hf16 : 0 ≤ f % 16 ∧ f % 16 < 16 := by omega
        have hb := below_next HB6.out HL12.out.bel
        obtain ⟨hni, hc2⟩ := law_in (E := { imgE g3 (pollsP k) with vector := 100, pirq := p, cirq := cap, tirq := irq.take 12 }) (m := qm R (f % 16) 0 0 []) (strs_one (at_next HL12.out.bel HG6.out) (by rw [pollsP_size]; decide)) HL12.out.snap rfl ⟨rfl, rfl, rfl, rfl⟩ (qm_ok HR.out hf16) (row_none _ _ _) (row_low (row_take HIN.out 12) hb) (show 1 ≤ maxLen by decide) ok16_0 (show OkU16 100 from ⟨by decide, by decide⟩) (Nat.zero_le _) (by show (irq.take 12).length ≤ _; rw [HN.out]; have := HN12.out; unfold maxLen; omega) (fun x hx => by cases hx) (fun x hx => HOK.out x (List.mem_of_mem_take hx))
        obtain ⟨s9, _, _, hrun⟩ := polls_run (E := { imgE g3 (pollsP k) with vector := 100, pirq := p, cirq := cap, tirq := irq.take 12 }) (n := k) (l := irq.take 12) (R := R) ⟨rfl, HN12.out, rfl, rfl, HN.out⟩ hf16
        have hx := Run_any hni c1 c2 hc2 1000 (by decide) (by show 0 + 1000 ≤ 1000000000000; decide)
        rw [norm_like rfl rfl rfl, hrun, HC.out, HRS.out] at hx
        dsimp only at hx
        rw [HN.out] at hx
        exact hx.mono fun e w' h => ⟨s9, h⟩)
      go_wp2_with (first | refine wpList_load_row 35 _ rfl rfl w3.heap.size rfl #[.slice (some ⟨g3, 0, none⟩) 1 1, .int .u16 0, .int .u16 100, .slice none 0 0, .slice none 0 0] (at_next HL12.out.bel HI6.out) Try.underlying35 info35 ?_ | refine wpList_load_row 43 _ rfl rfl w7.heap.size rfl (snC (qm R (f % 16) 0 0 []) RS (.slice p1 2 c1) (.slice p2 0 c2)) HL12.out.x Try.underlying43 info43 ?_)
      refine HX.out.mono ?_
      rintro e w13 ⟨s9, C13, rfl, hs13, h13⟩
      obtain ⟨p3, c3, p4, c4, rfl, hin13⟩ := hs13.cells
      obtain ⟨m9, hm9⟩ : ∃ m9, qend R (f % 16) k s9 c = m9 := ⟨_, rfl⟩
      dsimp only at hin13 ⊢
      rw [hm9] at hin13 ⊢
      have HM9 := Lib.hid hm9
      have HS13 := Lib.hid hin13
      have HB13 := Lib.hid h13
      clear hs13 h13 hin13 hm9 HX
      go_wp2_with (refine wpList_store_row 43 _ _ rfl rfl w13.heap.size rfl (snC m9 (ramS m9.ram) (.slice p3 m9.st.length c3) (.slice p4 m9.out.length c4)) rfl (blk_mid1 w13 _ _) info43 rfl (snC_one _ _ _ _ _ _ _ _) ?_; refine Hid.out ?_)
      generalize e14 : World.setRow _ _ _ = W14
      have HR14 := Lib.hid ((ran_a HB13.out HS13.out rfl).row HB13.out.size e14)
      refine Lib.hid ?_
      clear e14
      go_wp2_with (refine wpList_store_row 46 _ _ rfl rfl (w13.heap.size + 1) rfl #[.int .i64 1, .int .u16 0] rfl HR14.out.t info46 rfl (by simp [Value.oneCell']) ?_; refine Hid.out ?_)
      generalize e15 : World.setRow _ _ _ = W15
      have HR15 := Lib.hid (HR14.out.row2 HB13.out.size e15)
      refine Lib.hid ?_
      clear e15 HR14
      have HLB := Lib.hid (below_next HL12.out.bel HR15.out.bel)
      have hrb := at_next HLB.out HRB6.out
      have b0 : W15.cell? ⟨w.heap.size, 0, none⟩ = some (.int .u16 (R 0)) := Lib.cell_of_heap hrb 0
      have b1 : W15.cell? ⟨w.heap.size, 1, none⟩ = some (.int .u16 (R 1)) := Lib.cell_of_heap hrb 1
      have b2 : W15.cell? ⟨w.heap.size, 2, none⟩ = some (.int .u16 (R 2)) := Lib.cell_of_heap hrb 2
      have b3 : W15.cell? ⟨w.heap.size, 3, none⟩ = some (.int .u16 (R 3)) := Lib.cell_of_heap hrb 3
      have b4 : W15.cell? ⟨w.heap.size, 4, none⟩ = some (.int .u16 (R 4)) := Lib.cell_of_heap hrb 4
      have b5 : W15.cell? ⟨w.heap.size, 5, none⟩ = some (.int .u16 (R 5)) := Lib.cell_of_heap hrb 5
      have b6 : W15.cell? ⟨w.heap.size, 6, none⟩ = some (.int .u16 (R 6)) := Lib.cell_of_heap hrb 6
      have b7 : W15.cell? ⟨w.heap.size, 7, none⟩ = some (.int .u16 (R 7)) := Lib.cell_of_heap hrb 7
      have r0 : W15.cell? ⟨w13.heap.size, 0, none⟩ = some (.int .u16 (R 0)) := by rw [show R 0 = m9.R 0 by rw [← HM9.out]; rfl]; exact Lib.cell_of_heap HR15.out.y 0
      have r1 : W15.cell? ⟨w13.heap.size, 1, none⟩ = some (.int .u16 (R 1)) := by rw [show R 1 = m9.R 1 by rw [← HM9.out]; rfl]; exact Lib.cell_of_heap HR15.out.y 1
      have r2 : W15.cell? ⟨w13.heap.size, 2, none⟩ = some (.int .u16 (R 2)) := by rw [show R 2 = m9.R 2 by rw [← HM9.out]; rfl]; exact Lib.cell_of_heap HR15.out.y 2
      have r3 : W15.cell? ⟨w13.heap.size, 3, none⟩ = some (.int .u16 (R 3)) := by rw [show R 3 = m9.R 3 by rw [← HM9.out]; rfl]; exact Lib.cell_of_heap HR15.out.y 3
      have r4 : W15.cell? ⟨w13.heap.size, 4, none⟩ = some (.int .u16 (R 4)) := by rw [show R 4 = m9.R 4 by rw [← HM9.out]; rfl]; exact Lib.cell_of_heap HR15.out.y 4
      have r5 : W15.cell? ⟨w13.heap.size, 5, none⟩ = some (.int .u16 (R 5)) := by rw [show R 5 = m9.R 5 by rw [← HM9.out]; rfl]; exact Lib.cell_of_heap HR15.out.y 5
      have r6 : W15.cell? ⟨w13.heap.size, 6, none⟩ = some (.int .u16 (R 6)) := by rw [show R 6 = m9.R 6 by rw [← HM9.out]; rfl]; exact Lib.cell_of_heap HR15.out.y 6
      have r7 : W15.cell? ⟨w13.heap.size, 7, none⟩ = some (.int .u16 (R 7)) := by rw [show R 7 = m9.R 7 by rw [← HM9.out]; rfl]; exact Lib.cell_of_heap HR15.out.y 7
      have r10 : W15.cell? ⟨w13.heap.size, 10, none⟩ = some (.int .u16 321) := by rw [show (321 : Int) = m9.fp by rw [← HM9.out]; rfl]; exact Lib.cell_of_heap HR15.out.y 10
      have r11 : W15.cell? ⟨w13.heap.size, 11, none⟩ = some (.int .u16 (f % 16)) := by rw [show f % 16 = m9.f by rw [← HM9.out]; rfl]; exact Lib.cell_of_heap HR15.out.y 11
      have r15 : W15.cell? ⟨w13.heap.size, 15, none⟩ = some (.int .i64 (k : Int)) := by rw [show (k : Int) = m9.polls by rw [← HM9.out]; rfl]; exact Lib.cell_of_heap HR15.out.y 15
      have r17 : W15.cell? ⟨w13.heap.size, 17, none⟩ = some (.slice p3 2 c3) := by rw [show (2 : Nat) = m9.st.length by rw [← HM9.out]; rfl]; exact Lib.cell_of_heap HR15.out.y 17
      have HOL : Hid (m9.out.length = c) := Lib.hid (by rw [← HM9.out]; exact List.length_replicate ..)
      have r18 : W15.cell? ⟨w13.heap.size, 18, none⟩ = some (.slice p4 c c4) := by
        have h9 := Lib.cell_of_heap HR15.out.y 18
        rw [← HOL.out]
        exact h9
      have d0 : W15.cell? ⟨w13.heap.size + 1, 0, none⟩ = some (.int .i64 1) := Lib.cell_of_heap HR15.out.t 0
      have d1 : W15.cell? ⟨w13.heap.size + 1, 1, none⟩ = some (.int .u16 0) := Lib.cell_of_heap HR15.out.t 1
      have q46 : ∀ W, (binOp .neq 46 (.agg #[.int .i64 1, .int .u16 0]) (.agg #[.int .i64 1, .int .u16 0])).run Try.prog W = .ok (.bool false) W := fun W => by rw [neq46]; rfl
      have q37 := neq37 R
      have hg46 := guard46
      have hg37 : Try.prog.eqGuardType Try.prog.depth 37 = false := by kernel_rfl
      clear hrb
      go_wp2_with fail
      clear q46 q37 hg46 hg37 d0 d1 qa qb qc b0 r0 b1 r1 b2 r2 b3 r3 b4 r4 b5 r5 b6 r6 b7 r7 r10 r11 r15 r17
      have KR : Hid (∀ W, Below W15.heap.size W15 W → W.cell? ⟨w13.heap.size, 18, none⟩ = some (.slice p4 c c4) ∧ W.cell? ⟨w.heap.size, 2, none⟩ = some (.int .u16 (R 2))) := Lib.hid fun W hW => ⟨(hW.cell (p := ⟨w13.heap.size, 18, none⟩) (at_lt HR15.out.y)).trans r18, Lib.cell_of_heap (at_next hW (at_next HLB.out HRB6.out)) 2⟩
      have HCC : Hid (c ≤ 12) := Lib.hid (by rw [← HC.out]; have := want_le (irq.take 12); rw [HN.out] at this; have := HN12.out; omega)
      clear r18
      go_loopw [15] (fun i_ wr => ∃ j : Nat, j ≤ c ∧ i_ = .int .i64 (j : Int) ∧ Below W15.heap.size W15 wr) (fun i_ _ => c - (intOf i_).toNat)
      case atStart => exact ⟨0, Nat.zero_le _, rfl, Below.refl _ _⟩
      case round =>
        obtain ⟨j, hj, rfl, hb⟩ := hrel
        have HBJ := Lib.hid hb
        have l18 := (KR.out _ hb).1
        by_cases hlt : j < c
        · have b0 : decide ((j : Int) < (c : Int)) = true := decide_eq_true (by omega)
          have b1 : decide (j < c) = true := decide_eq_true hlt
          have x2 : IntKind.i64.wrap ((j : Int) + 1) = (j : Int) + 1 := IntWalk.i64_in _ (by have := HCC.out; omega)
          have i0 : (0 : Int) ≤ (j : Int) := by omega
          have i1 : (j : Int) < (c : Int) := by omega
          have HLT := Lib.hid hlt
          obtain ⟨g4, hp4, hg4, hcell⟩ := (own_src HR15.out.snap.out).resolve_left (by rw [HOL.out]; omega)
          subst hp4
          obtain ⟨o1, o2⟩ := outC_at m9.out j 5 (R 2) (by
            have : m9.out = List.replicate c (5, R 2) := by rw [← HM9.out]; rfl
            rw [this, List.getElem?_replicate, if_pos hlt])
          have HU : Hid (∀ W, Below wr.heap.size wr W → W.cell? ⟨w13.heap.size, 18, none⟩ = some (.slice (some ⟨g4, 0, none⟩) c c4) ∧ W.cell? ⟨g4, j * 2, none⟩ = some (.int .u16 5) ∧ W.cell? ⟨g4, j * 2 + 1, none⟩ = some (.int .u16 (R 2)) ∧ W.cell? ⟨w.heap.size, 2, none⟩ = some (.int .u16 (R 2))) := Lib.hid fun W hW => by
            have hb2 := below_next HBJ.out hW
            exact ⟨(KR.out W hb2).1, (hb2.cell (p := ⟨g4, j * 2, none⟩) hg4).trans (hcell _ _ o1), (hb2.cell (p := ⟨g4, j * 2 + 1, none⟩) hg4).trans (hcell _ _ o2), (KR.out W hb2).2⟩
          have HQ : Hid (∀ W, (binOp .neq 54 (.agg #[.int .u16 5, .int .u16 (R 2)]) (.agg #[.int .u16 5, .int .u16 (R 2)])).run Try.prog W = .ok (.bool false) W) := Lib.hid fun W => by rw [neq54]; simp
          clear hcell o1 o2 hg4 hj hb
          go_upto_region 24 with (fail)
          clear l18
          refine wp_region_flow (S := fun W => Below wr.heap.size wr W) (by kernel_rfl) (by kernel_rfl) (Below.drew (Below.refl _ _)) ?_
          refine Flow.step ?_ ?_ ?_
          rotate_left
          · intro V2 K hS hK
            go_simp
            exact hK _ hS
          simp only [Act.put, lA, lZ, lS]
          refine Flow.step ?_ ?_ ?_
          rotate_left
          · intro V2 K hS hK
            obtain ⟨l18, l5, l2, lb⟩ := HU.out _ hS
            go_simp
            exact hK _ hS
          simp only [Act.put, lA, lZ, lS]
          refine Flow.step ?_ ?_ ?_
          rotate_left
          · intro V2 K hS hK
            go_simp
            exact hK _ hS
          simp only [Act.put, lA, lZ, lS]
          refine Flow.step ?_ ?_ ?_
          rotate_left
          · intro V2 K hS hK
            go_simp
            exact hK _ hS
          simp only [Act.put, lA, lZ, lS]
          refine Flow.step ?_ ?_ ?_
          rotate_left
          · intro V2 K hS hK
            obtain ⟨l18, l5, l2, lb⟩ := HU.out _ hS
            go_simp
            exact hK _ hS
          simp only [Act.put, lA, lZ, lS]
          refine Flow.step ?_ ?_ ?_
          rotate_left
          · intro V2 K hS hK
            go_simp
            exact hK _ hS
          simp only [Act.put, lA, lZ, lS]
          refine Flow.step ?_ ?_ ?_
          rotate_left
          · intro V2 K hS hK
            obtain ⟨l18, l5, l2, lb⟩ := HU.out _ hS
            go_simp
            exact hK _ hS
          simp only [Act.put, lA, lZ, lS]
          refine Flow.step ?_ ?_ ?_
          rotate_left
          · intro V2 K hS hK
            go_simp
            exact hK _ hS
          simp only [Act.put, lA, lZ, lS]
          refine Flow.step ?_ ?_ ?_
          rotate_left
          · intro V2 K hS hK
            obtain hq := HQ.out
            obtain hg := guard54
            go_simp
            exact hK _ hS
          simp only [Act.put, lA, lZ, lS]
          refine Flow.done ?_
          intro V2 hS
          have HB3 := Lib.hid (below_next HBJ.out hS)
          clear hS
          go_wp2_with fail
          go_roundw
          case rel => exact ⟨j + 1, by have := HLT.out; omega, by go_num, HB3.out⟩
          case measure => have := HLT.out; simp only [intOf]; omega
        · obtain rfl : j = c := by omega
          have b0 : decide ((j : Int) < (j : Int)) = false := decide_eq_false (by omega)
          have b1 : decide (j < j) = false := decide_eq_false (by omega)
          have HBZ := Lib.hid (below_next HB6.out (below_next HLB.out HBJ.out))
          clear hj hb hlt
          go_wp2_with fail
          exact bodyPost_ret (v := .bool true) (by simp [results, Try.results4, go_sem]) rfl ⟨rfl, HBZ.out⟩
theorem cpuPolls_walk (p : Option Addr) (cap : Nat) (irq : List Int) (R : Nat → Int) (f : Int) (w : World) (hl : irq.length ≤ 9223372036854775807) (hcap : irq.length ≤ cap) (hin : RowLow w.heap.size w p .u8 irq) (hok : ∀ x ∈ irq, 0 ≤ x ∧ x < 256) (hR : ∀ k, OkU16 (R k)) (f0 : 0 ≤ f) (f1 : f < 256) :
    Calls Try.prog 4 #[.slice p irq.length cap, .agg #[.int .u16 (R 0), .int .u16 (R 1), .int .u16 (R 2), .int .u16 (R 3), .int .u16 (R 4), .int .u16 (R 5), .int .u16 (R 6), .int .u16 (R 7)], .int .u8 f] w fun e w' => e = .returned (.bool true) ∧ Below w.heap.size w w' :=
  polls_pick p cap irq R f w hin hcap hl hok hR ⟨f0, f1⟩
end Go.Proofs.Ytieaicdihingkaa
