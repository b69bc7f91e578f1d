/- CpuStack: the walk. -/
import Derived.Test.YtieaicdihingkaaPS
import Derived.Test.YtieaicdihingkaaE1
namespace Go.Proofs.Ytieaicdihingkaa
set_option linter.unusedVariables false
set_option linter.unusedSimpArgs false
open Go.RowKit
def stkC (n : Nat) : Array Value := #[.int .i64 16, .int .i64 1, .int .i64 0, .int .u16 0, .int .u16 0, .int .i64 0, .int .i64 2, .int .i64 16, .int .i64 2, .int .i64 0, .int .u16 0, .int .u16 0, .int .i64 0, .int .i64 2, .int .i64 20, .int .i64 0, .int .i64 0, .int .u16 (n : Int), .int .u16 0, .int .i64 0, .int .i64 2, .int .i64 162, .int .i64 3, .int .i64 0, .int .u16 65534, .int .u16 0, .int .i64 0, .int .i64 3, .int .i64 160, .int .i64 4, .int .i64 0, .int .u16 ((n + 1 : Nat) : Int), .int .u16 0, .int .i64 0, .int .i64 3, .int .i64 5, .int .i64 0, .int .i64 0, .int .u16 0, .int .u16 0, .int .i64 0, .int .i64 1, .int .i64 17, .int .i64 5, .int .i64 0, .int .u16 0, .int .u16 0, .int .i64 0, .int .i64 2, .int .i64 160, .int .i64 6, .int .i64 0, .int .u16 0, .int .u16 0, .int .i64 0, .int .i64 3, .int .i64 21, .int .i64 0, .int .i64 0, .int .u16 1, .int .u16 0, .int .i64 0, .int .i64 2, .int .i64 1, .int .i64 0, .int .i64 0, .int .u16 0, .int .u16 0, .int .i64 0, .int .i64 1]
def stkE (n : Nat) : Nat → List Int
  | 0 => [16, 1]
  | 1 => [16, 2]
  | 2 => [20, (n : Int) % 256]
  | 3 => [162, 3, 65534 % 256]
  | 4 => [160, 4, ((n + 1 : Nat) : Int) % 256]
  | 5 => [5]
  | 6 => [17, 5]
  | 7 => [160, 6, 0 % 256]
  | 8 => [21, 1 % 256]
  | 9 => [1]
  | k + 10 => []
def stkP (n : Nat) : Nat → List Int
  | 0 => []
  | k + 1 => stkP n k ++ stkE n k
theorem stk_row (n : Nat) (hn : n < 200) : ∀ k : Nat, k < 10 → ∃ op f z d imm, EncIn op f z d imm ∧ stkP n (k + 1) = stkP n k ++ rencL op f d imm ∧ (stkC n)[k * 7]? = some (.int .i64 op) ∧ (stkC n)[k * 7 + 1]? = some (.int .i64 d) ∧ (stkC n)[k * 7 + 2]? = some (.int .i64 0) ∧ (stkC n)[k * 7 + 3]? = some (.int .u16 imm) ∧ (stkC n)[k * 7 + 4]? = some (.int .u16 0) ∧ (stkC n)[k * 7 + 5]? = some (.int .i64 0) ∧ (stkC n)[k * 7 + 6]? = some (.int .i64 z)
  | 0, _ => ⟨16, 2, 2, 1, 0, ⟨by simp [fmtsL], by omega, ⟨by omega, by omega⟩, by omega, by omega, by omega, by omega, by omega⟩, rfl, rfl, rfl, rfl, rfl, rfl, rfl, rfl⟩
  | 1, _ => ⟨16, 2, 2, 2, 0, ⟨by simp [fmtsL], by omega, ⟨by omega, by omega⟩, by omega, by omega, by omega, by omega, by omega⟩, rfl, rfl, rfl, rfl, rfl, rfl, rfl, rfl⟩
  | 2, _ => ⟨20, 3, 2, 0, (n : Int), ⟨by simp [fmtsL], by omega, ⟨by omega, by omega⟩, by omega, by omega, by omega, by omega, by omega⟩, rfl, rfl, rfl, rfl, rfl, rfl, rfl, rfl⟩
  | 3, _ => ⟨162, 18, 3, 3, 65534, ⟨by simp [fmtsL], by omega, ⟨by omega, by omega⟩, by omega, by omega, by omega, by omega, by omega⟩, rfl, rfl, rfl, rfl, rfl, rfl, rfl, rfl⟩
  | 4, _ => ⟨160, 15, 3, 4, ((n + 1 : Nat) : Int), ⟨by simp [fmtsL], by omega, ⟨by omega, by omega⟩, by omega, by omega, by omega, by omega, by omega⟩, rfl, rfl, rfl, rfl, rfl, rfl, rfl, rfl⟩
  | 5, _ => ⟨5, 1, 1, 0, 0, ⟨by simp [fmtsL], by omega, ⟨by omega, by omega⟩, by omega, by omega, by omega, by omega, by omega⟩, rfl, rfl, rfl, rfl, rfl, rfl, rfl, rfl⟩
  | 6, _ => ⟨17, 2, 2, 5, 0, ⟨by simp [fmtsL], by omega, ⟨by omega, by omega⟩, by omega, by omega, by omega, by omega, by omega⟩, rfl, rfl, rfl, rfl, rfl, rfl, rfl, rfl⟩
  | 7, _ => ⟨160, 15, 3, 6, 0, ⟨by simp [fmtsL], by omega, ⟨by omega, by omega⟩, by omega, by omega, by omega, by omega, by omega⟩, rfl, rfl, rfl, rfl, rfl, rfl, rfl, rfl⟩
  | 8, _ => ⟨21, 3, 2, 0, 1, ⟨by simp [fmtsL], by omega, ⟨by omega, by omega⟩, by omega, by omega, by omega, by omega, by omega⟩, rfl, rfl, rfl, rfl, rfl, rfl, rfl, rfl⟩
  | 9, _ => ⟨1, 1, 1, 0, 0, ⟨by simp [fmtsL], by omega, ⟨by omega, by omega⟩, by omega, by omega, by omega, by omega, by omega⟩, rfl, rfl, rfl, rfl, rfl, rfl, rfl, rfl⟩
  | k + 10, h => by omega
theorem stk_len (n : Nat) (hn : n < 200) : ∀ k : Nat, k ≤ 10 → (stkP n k).length ≤ 3 * k
  | 0, _ => by simp [stkP]
  | k + 1, h => by
    obtain ⟨op, f, z, d, imm, _, hp, _⟩ := stk_row n hn k (by omega)
    have := stk_len n hn k (by omega)
    have := (renc_len op f d imm).2
    rw [hp, List.length_append]
    omega
theorem stk_all (n : Nat) (hn : n < 200) : (⟨(bytesI (stkP n 10)).toArray⟩ : ByteArray) = stackB n := by
  have h : stkP n 10 = [16, 1, 16, 2, 20, (n : Int) % 256, 162, 3, 254, 160, 4, ((n + 1 : Nat) : Int) % 256, 5, 17, 5, 160, 6, 0, 21, 1, 1] := rfl
  have h1 : (n : Int) % 256 = (n : Int) := by omega
  have h2 : ((n + 1 : Nat) : Int) % 256 = ((n + 1 : Nat) : Int) := by omega
  rw [h, h1, h2]
  rfl
theorem bytesI_app (a b : List Int) : (⟨(bytesI a).toArray⟩ : ByteArray) ++ ⟨(bytesI b).toArray⟩ = ⟨(bytesI (a ++ b)).toArray⟩ := by
  apply ByteArray.ext
  simp [ByteArray.data_append, bytesI]
theorem sR_ok {a b : Int} (ha : OkU16 a) (hb : OkU16 b) : ∀ k, OkU16 (sR a b k) := by
  intro k
  unfold sR setR
  repeat' split
  · exact hb
  · exact ha
  · exact ok16_0
set_option maxRecDepth 20000 in
set_option maxHeartbeats 8000000 in
theorem stack_pick (a b u : Int) (w : World) (ha : OkU16 a) (hb : OkU16 b) (hu : 0 ≤ u ∧ u < 256) : Calls Try.prog 3 #[.agg #[.int .u16 a, .int .u16 b], .int .u8 u] w (EvPost w true) := by
  have HA := Lib.hid ha
  have HB := Lib.hid hb
  obtain ⟨n, hn⟩ : ∃ n : Nat, u % 200 = (n : Int) := ⟨(u % 200).toNat, by omega⟩
  have HN : Hid (n < 200) := Lib.hid (by omega)
  have q0 : u.tmod 200 = (n : Int) := by rw [Int.tmod_eq_emod_of_nonneg hu.1]; exact hn
  have q1 : IntKind.u8.wrap (n : Int) = (n : Int) := by rw [IntKind.wrap_u8]; omega
  have q2 : IntKind.i64.wrap (n : Int) = (n : Int) := IntWalk.i64_in _ (by omega)
  have q3 : IntKind.u16.wrap (n : Int) = (n : Int) := by rw [IntKind.wrap_u16]; omega
  have q4 : IntKind.i64.wrap ((n : Int) + 1) = (n : Int) + 1 := IntWalk.i64_in _ (by omega)
  have q5 : IntKind.u16.wrap ((n : Int) + 1) = (n : Int) + 1 := by rw [IntKind.wrap_u16]; omega
  clear ha hb hu hn
  go_enter Try.func3, Try.ntmps3
  go_upto_region 1 with (fail)
  generalize e0 : w.alloc _ = W0
  have HV0 := Lib.hid (al_blk e0)
  have HB0 := Lib.hid (al_bel e0)
  clear e0
  go_wp2_with fail
  refine (sanity_any _).mono ?_
  rintro e w1 ⟨rfl, h1⟩
  have HB1 := Lib.hid (below_next HB0.out h1)
  have HV1 := Lib.hid (at_next h1 HV0.out)
  clear h1 HB0 HV0
  go_upto_region 4 with (fail)
  generalize e2 : w1.alloc _ = W2
  have HL2 : Hid (W2.heap[w1.heap.size]? = some (.cells (stkC n) 26 (0, 0))) := Lib.hid (al_blk e2)
  have HB2 := Lib.hid (below_next HB1.out (al_bel e2))
  have HV2 := Lib.hid (at_next (al_bel e2) HV1.out)
  clear e2 HB1 HV1 q0 q1 q2 q3 q4 q5
  go_wp2_with fail
  go_loopw [8, 9] (fun s_ i_ wr => ∃ k : Nat, k ≤ 10 ∧ i_ = .int .i64 (k : Int) ∧ s_ = .string ⟨(bytesI (stkP n k)).toArray⟩ ∧ Below W2.heap.size W2 wr) (fun _ i_ _ => 10 - (intOf i_).toNat)
  case atStart => exact ⟨0, Nat.zero_le _, rfl, rfl, Below.refl _ _⟩
  case round =>
    obtain ⟨k, hk, rfl, rfl, hb⟩ := hrel
    have HBK := Lib.hid hb
    have HK := Lib.hid hk
    obtain ⟨S, hS⟩ : ∃ S : ByteArray, (⟨(bytesI (stkP n k)).toArray⟩ : ByteArray) = S := ⟨_, rfl⟩
    have hSz : S.size ≤ 30 := by
      rw [← hS]
      show (bytesI (stkP n k)).toArray.size ≤ 30
      have := stk_len n HN.out k hk
      rw [List.size_toArray, bytesI, List.length_map]
      omega
    have HSz := Lib.hid hSz
    by_cases hlt : k < 10
    · have b0 : decide ((k : Int) < 10) = true := decide_eq_true (by omega)
      have b1 : decide (k < 10) = true := decide_eq_true hlt
      have HLT := Lib.hid hlt
      have x2 : IntKind.i64.wrap ((k : Int) + 1) = (k : Int) + 1 := IntWalk.i64_in _ (by omega)
      obtain ⟨op, f, z, d, imm, henc, hp, hc0, hc1, hc2, hc3, hc4, hc5, hc6⟩ := stk_row n HN.out k hlt
      have hh := Lib.cell_of_heap (at_next hb HL2.out)
      have c0 : wr.cell? ⟨w1.heap.size, k * 7, none⟩ = some (.int .i64 op) := (hh _).trans hc0
      have c1 : wr.cell? ⟨w1.heap.size, k * 7 + 1, none⟩ = some (.int .i64 d) := (hh _).trans hc1
      have c2 : wr.cell? ⟨w1.heap.size, k * 7 + 2, none⟩ = some (.int .i64 0) := (hh _).trans hc2
      have c3 : wr.cell? ⟨w1.heap.size, k * 7 + 3, none⟩ = some (.int .u16 imm) := (hh _).trans hc3
      have c4 : wr.cell? ⟨w1.heap.size, k * 7 + 4, none⟩ = some (.int .u16 0) := (hh _).trans hc4
      have c5 : wr.cell? ⟨w1.heap.size, k * 7 + 5, none⟩ = some (.int .i64 0) := (hh _).trans hc5
      have c6 : wr.cell? ⟨w1.heap.size, k * 7 + 6, none⟩ = some (.int .i64 z) := (hh _).trans hc6
      have i0 : (0 : Int) ≤ (k : Int) := by omega
      have i1 : (k : Int) < 10 := by omega
      have HE := Lib.hid fun W => rencode_at op f z d imm W henc
      have HS : Hid (S ++ rencB op f d imm = ⟨(bytesI (stkP n (k + 1))).toArray⟩) := Lib.hid (by rw [← hS, hp]; exact bytesI_app _ _)
      have HZ : Hid ((rencB op f d imm).size ≤ 3) := Lib.hid (by
        show (bytesI (rencL op f d imm)).toArray.size ≤ 3
        rw [List.size_toArray, bytesI, List.length_map]
        exact (renc_len op f d imm).2)
      rw [hS]
      obtain ⟨T, hT⟩ : ∃ T : ByteArray, rencB op f d imm = T := ⟨_, rfl⟩
      rw [hT] at HE HS HZ
      clear hS hk hb hlt hh hc0 hc1 hc2 hc3 hc4 hc5 hc6 henc hp hT
      go_wp2_with fail
      refine (HE.out _).mono ?_
      rintro e w3 ⟨rfl, h3⟩
      have HB3 := Lib.hid (below_next HBK.out h3)
      have z1 : ¬ 9223372036854775807 < S.size + T.size := by have := HZ.out; omega
      clear c0 c1 c2 c3 c4 c5 c6 h3
      go_wp2_with fail
      go_roundw
      case rel => exact ⟨k + 1, by have := HLT.out; omega, by go_num, by rw [HS.out], HB3.out⟩
      case measure => have := HLT.out; simp only [intOf]; omega
    · obtain rfl : k = 10 := by omega
      have b0 : decide (((10 : Nat) : Int) < 10) = false := rfl
      have HBX := Lib.hid (below_next HB2.out HBK.out)
      have HVX := Lib.hid (at_next HBK.out HV2.out)
      rw [stk_all n HN.out]
      clear hS hk hb hlt hSz
      go_wp2_with fail
      refine (image_any2 (stackB n) _ (by show 21 ≤ 1000000000000; decide)).mono ?_
      rintro e w3 ⟨g3, rfl, hg3, hlo, h3⟩
      obtain ⟨PB, hPB⟩ : ∃ PB, pageB 0 (stackB n) = PB := ⟨_, rfl⟩
      have HZ : Hid (PB.size ≤ maxLen) := Lib.hid (by rw [← hPB, pageB_size]; decide)
      have HPB := Lib.hid hPB
      rw [hPB] at hg3
      have HB3 := Lib.hid (below_next HBX.out h3)
      have HV3 := Lib.hid (at_next h3 HVX.out)
      have HG3 := Lib.hid hg3
      clear h3 hPB hg3 b0 hlo HBX HVX HBK HB2 HV2 HL2
      go_upto_region 11 with (fail)
      generalize e4 : w3.alloc _ = W4
      have hb4 := al_bel e4
      have HI4 := Lib.hid (al_blk e4)
      have HB4 := Lib.hid (below_next HB3.out hb4)
      have HV4 := Lib.hid (at_next hb4 HV3.out)
      have HG4 := Lib.hid (at_next hb4 HG3.out)
      clear hb4 e4 HV3 HG3
      go_wp2_with (refine wpList_load_row 35 _ rfl rfl w3.heap.size rfl #[.slice (some ⟨g3, 0, none⟩) 1 1, .int .u16 0, .int .u16 0, .slice none 0 0, .slice none 0 0] HI4.out Try.underlying35 info35 ?_)
      refine (refStart_any (E := imgE g3 PB) ⟨strs_one HG4.out HZ.out, (by decide : 1 ≤ maxLen), ok16_0, ok16_0⟩).mono ?_
      rintro e w7 ⟨C7, rfl, hs7, h7⟩
      obtain ⟨p1, c1, p2, c2, rfl, hin7⟩ := hs7.cells
      obtain ⟨RS, hRS⟩ : ∃ RS, ramS (fun _ => 0) = RS := ⟨_, rfl⟩
      have HRS := Lib.hid hRS
      rw [hRS]
      have HH7 := Lib.hid h7
      have HIN7 := Lib.hid hin7
      clear hs7 h7 hin7 hRS
      go_wp2_with (refine wpList_store_row 43 _ _ rfl rfl w7.heap.size rfl (snC (startM 0) RS (.slice p1 2 c1) (.slice p2 0 c2)) rfl (alloc_at w7 _) info43 rfl (snC_one _ _ _ _ _ _ _ _) ?_; refine Hid.out ?_)
      generalize e9 : World.setRow _ _ _ = W9
      have HL9 := Lib.hid (law_start HH7.out HIN7.out rfl e9)
      refine Lib.hid ?_
      clear e9 HH7 HIN7
      have v0 : W9.cell? ⟨w.heap.size, 0, none⟩ = some (.int .u16 a) := Lib.cell_of_heap (at_next HL9.out.bel HV4.out) 0
      have y0 : W9.cell? ⟨w7.heap.size, 1, none⟩ = some (.int .u16 0) := HL9.out.cell 1
      have z0 := at_fr HL9.out.x 1
      go_upto_region 13 with (fail)
      generalize e10 : World.setCell _ _ _ = W10
      have HL10 : Hid (LawAt W4 w7.heap.size (snC ({ startM 0 with R := setR (fun _ => 0) 1 a }) RS (.slice p1 2 c1) (.slice p2 0 c2)) (startM 0) (.slice p1 2 c1) (.slice p2 0 c2) W10) := Lib.hid (by
        have h := HL9.out.set e10
        simp only [snC, lA, lZ, lS] at h
        exact h)
      clear e10 HL9 y0 z0 v0
      have v0 : W10.cell? ⟨w.heap.size, 1, none⟩ = some (.int .u16 b) := Lib.cell_of_heap (at_next HL10.out.bel HV4.out) 1
      have y0 : W10.cell? ⟨w7.heap.size, 2, none⟩ = some (.int .u16 0) := HL10.out.cell 2
      have z0 := at_fr HL10.out.x 2
      go_upto_region 14 with (fail)
      generalize e11 : World.setCell _ _ _ = W11
      have HL11 : Hid (LawAt W4 w7.heap.size (snC ({ startM 0 with R := sR a b }) RS (.slice p1 2 c1) (.slice p2 0 c2)) (startM 0) (.slice p1 2 c1) (.slice p2 0 c2) W11) := Lib.hid (by
        have h := HL10.out.set e11
        simp only [snC, lA, lZ, lS] at h
        exact h)
      clear e11 HL10 y0 z0 v0
      have y0 : W11.cell? ⟨w7.heap.size, 10, none⟩ = some (.int .u16 0) := HL11.out.cell 10
      have z0 := at_fr HL11.out.x 10
      go_upto_region 15 with (fail)
      generalize e12 : World.setCell _ _ _ = W12
      have HL12 : Hid (LawAt W4 w7.heap.size (snC (sm a b (sR a b) 0 9 0 [0, 65535]) RS (.slice p1 2 c1) (.slice p2 0 c2)) (startM 0) (.slice p1 2 c1) (.slice p2 0 c2) W12) := Lib.hid (by
        have h := HL11.out.set e12
        simp only [snC, lA, lZ, lS] at h
        exact h)
      clear e12 HL11 y0 z0
      have HX : Hid (Calls Try.prog 14 #[.agg #[.slice (some ⟨g3, 0, none⟩) 1 1, .int .u16 0, .int .u16 0, .slice none 0 0, .slice none 0 0], .agg #[.slice none 0 0, .slice none 0 0], .agg (snC (sm a b (sR a b) 0 9 0 [0, 65535]) RS (.slice p1 2 c1) (.slice p2 0 c2)), .int .i64 100] W12 (RanPost W12 (sm a b (setR (setR (setR (setR (sR a b) 3 b) 4 b) 5 b) 6 a) 65535 9 10 [], (6, 0)))) := Lib.hid (by
        obtain ⟨a1, a2, a3, a4, a5, a6, a7, a8, a9, a10, a11, a12, a13, a14⟩ := startM_ok ok16_0
        obtain ⟨hni, hc2⟩ := law_in (E := imgE g3 PB) (m := sm a b (sR a b) 0 9 0 [0, 65535]) (strs_one (at_next HL12.out.bel HG4.out) HZ.out) HL12.out.snap rfl ⟨rfl, rfl, rfl, rfl⟩ ⟨sR_ok HA.out HB.out, (show OkU16 0 from ok16_0), a3, (show OkU16 9 from ⟨by decide, by decide⟩), a5, a6, ok64_0, a8, a9, a10, a11, a12, a13, a14⟩ (row_none _ _ _) (row_none _ _ _) (show 1 ≤ maxLen by decide) ok16_0 ok16_0 (Nat.zero_le _) (Nat.zero_le _) (fun x hx => by cases hx) (fun x hx => by cases hx)
        have hrun := stack_run (E := imgE g3 PB) (n := n) (a := a) (b := b) (by rw [HPB.out]; rfl) HN.out
        have hx := Run_any hni c1 c2 hc2 100 (by decide) (by show 0 + 100 ≤ 1000000000000; decide)
        rw [norm_like rfl rfl rfl, hrun, HRS.out] at hx
        exact hx)
      go_wp2_with (first | refine wpList_load_row 35 _ rfl rfl w3.heap.size rfl #[.slice (some ⟨g3, 0, none⟩) 1 1, .int .u16 0, .int .u16 0, .slice none 0 0, .slice none 0 0] (at_next HL12.out.bel HI4.out) Try.underlying35 info35 ?_ | refine wpList_load_row 43 _ rfl rfl w7.heap.size rfl (snC (sm a b (sR a b) 0 9 0 [0, 65535]) RS (.slice p1 2 c1) (.slice p2 0 c2)) HL12.out.x Try.underlying43 info43 ?_)
      refine HX.out.mono ?_
      rintro e w13 ⟨C13, rfl, hs13, h13⟩
      obtain ⟨p3, c3, p4, c4, rfl, hin13⟩ := hs13.cells
      obtain ⟨m9, hm9⟩ : ∃ m9, sm a b (setR (setR (setR (setR (sR a b) 3 b) 4 b) 5 b) 6 a) 65535 9 10 [] = m9 := ⟨_, rfl⟩
      dsimp only at hin13 ⊢
      rw [hm9] at hin13 ⊢
      have HM9 := Lib.hid hm9
      have HS13 := Lib.hid hin13
      have HB13 := Lib.hid h13
      clear hs13 h13 hin13 hm9 HX
      go_wp2_with (refine wpList_store_row 43 _ _ rfl rfl w13.heap.size rfl (snC m9 (ramS m9.ram) (.slice p3 m9.st.length c3) (.slice p4 m9.out.length c4)) rfl (blk_mid1 w13 _ _) info43 rfl (snC_one _ _ _ _ _ _ _ _) ?_; refine Hid.out ?_)
      generalize e14 : World.setRow _ _ _ = W14
      have HR14 := Lib.hid ((ran_a HB13.out HS13.out rfl).row HB13.out.size e14)
      refine Lib.hid ?_
      clear e14
      go_wp2_with (refine wpList_store_row 46 _ _ rfl rfl (w13.heap.size + 1) rfl #[.int .i64 6, .int .u16 0] rfl HR14.out.t info46 rfl (by simp [Value.oneCell']) ?_; refine Hid.out ?_)
      generalize e15 : World.setRow _ _ _ = W15
      have HR15 := Lib.hid (HR14.out.row2 HB13.out.size e15)
      refine Lib.hid ?_
      clear e15 HR14
      have HLB := Lib.hid (below_next HL12.out.bel HR15.out.bel)
      have hv := at_next HLB.out HV4.out
      have v0 : W15.cell? ⟨w.heap.size, 0, none⟩ = some (.int .u16 a) := Lib.cell_of_heap hv 0
      have v1 : W15.cell? ⟨w.heap.size, 1, none⟩ = some (.int .u16 b) := Lib.cell_of_heap hv 1
      have r3 : W15.cell? ⟨w13.heap.size, 3, none⟩ = some (.int .u16 b) := by rw [show b = m9.R 3 by rw [← HM9.out]; rfl]; exact Lib.cell_of_heap HR15.out.y 3
      have r4 : W15.cell? ⟨w13.heap.size, 4, none⟩ = some (.int .u16 b) := by rw [show b = m9.R 4 by rw [← HM9.out]; rfl]; exact Lib.cell_of_heap HR15.out.y 4
      have r5 : W15.cell? ⟨w13.heap.size, 5, none⟩ = some (.int .u16 b) := by rw [show b = m9.R 5 by rw [← HM9.out]; rfl]; exact Lib.cell_of_heap HR15.out.y 5
      have r6 : W15.cell? ⟨w13.heap.size, 6, none⟩ = some (.int .u16 a) := by rw [show a = m9.R 6 by rw [← HM9.out]; rfl]; exact Lib.cell_of_heap HR15.out.y 6
      have r10 : W15.cell? ⟨w13.heap.size, 10, none⟩ = some (.int .u16 9) := by rw [show (9 : Int) = m9.fp by rw [← HM9.out]; rfl]; exact Lib.cell_of_heap HR15.out.y 10
      have r13 : W15.cell? ⟨w13.heap.size, 13, none⟩ = some (.int .i64 10) := by rw [show (10 : Int) = m9.steps by rw [← HM9.out]; rfl]; exact Lib.cell_of_heap HR15.out.y 13
      have r17 : W15.cell? ⟨w13.heap.size, 17, none⟩ = some (.slice p3 0 c3) := by rw [show (0 : Nat) = m9.st.length by rw [← HM9.out]; rfl]; exact Lib.cell_of_heap HR15.out.y 17
      have d0 : W15.cell? ⟨w13.heap.size + 1, 0, none⟩ = some (.int .i64 6) := Lib.cell_of_heap HR15.out.t 0
      have d1 : W15.cell? ⟨w13.heap.size + 1, 1, none⟩ = some (.int .u16 0) := Lib.cell_of_heap HR15.out.t 1
      have q46 : ∀ W, (binOp .eql 46 (.agg #[.int .i64 6, .int .u16 0]) (.agg #[.int .i64 6, .int .u16 0])).run Try.prog W = .ok (.bool true) W := fun W => by rw [eql46]; rfl
      have hg46 := guard46
      have HBZ := Lib.hid (below_next HB4.out (below_next HL12.out.bel HR15.out.bel))
      clear hv
      go_wp2_with fail
      exact bodyPost_ret (v := .bool true) (by simp [results, Try.results3, go_sem]) rfl ⟨rfl, HBZ.out⟩
theorem cpuStack_walk (a b u : Int) (w : World) (a0 : 0 ≤ a) (a1 : a < 65536) (b0 : 0 ≤ b) (b1 : b < 65536) (u0 : 0 ≤ u) (u1 : u < 256) : Calls Try.prog 3 #[.agg #[.int .u16 a, .int .u16 b], .int .u8 u] w fun e w' => e = .returned (.bool true) ∧ Below w.heap.size w w' :=
  stack_pick a b u w ⟨a0, a1⟩ ⟨b0, b1⟩ ⟨u0, u1⟩
end Go.Proofs.Ytieaicdihingkaa
