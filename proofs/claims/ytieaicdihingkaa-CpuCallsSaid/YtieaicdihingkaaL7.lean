/- CpuCalls: the walk. -/
import Derived.Test.YtieaicdihingkaaPC
import Derived.Test.YtieaicdihingkaaE1
import Derived.Test.YtieaicdihingkaaK33
namespace Go.Proofs.Ytieaicdihingkaa
set_option linter.unusedVariables false
set_option linter.unusedSimpArgs false
open Go.RowKit
theorem bytesI_app' (a b : List Int) : (⟨(bytesI a).toArray⟩ : ByteArray) ++ ⟨(bytesI b).toArray⟩ = ⟨(bytesI (a ++ b)).toArray⟩ := by
  apply ByteArray.ext
  simp [ByteArray.data_append, bytesI]
theorem strs_two {w : World} {g : Nat} {S T : ByteArray} (h : w.heap[g]? = some (.cells #[.string T, .string S] 9 (0, 0))) (hs : S.size ≤ maxLen) (ht : T.size ≤ maxLen) : StrsLow w.heap.size w (some ⟨g, 0, none⟩) [T, S] := fun k s hk => by
  match k with
  | 0 =>
    obtain rfl : T = s := by simpa using hk
    exact ⟨g, rfl, at_lt h, Lib.cell_of_heap h 0, ht⟩
  | 1 =>
    obtain rfl : S = s := by simpa using hk
    exact ⟨g, rfl, at_lt h, Lib.cell_of_heap h 1, hs⟩
  | k + 2 => simp at hk
theorem encLds (k : Nat) (h : k < 8) : EncIn 160 15 3 1 ((k + 2 : Nat) : Int) := ⟨by simp [fmtsL], by omega, ⟨by omega, by omega⟩, by omega, by omega, by omega, by omega, by omega⟩
theorem call_ok {b : Int} (h0 : 0 ≤ b) (h1 : b < 64) : Mach.Ok { startM 0 with bank := b } := (startM_ok ok16_0).banks ⟨by omega, by omega⟩
def callE (g nb : Nat) (Bs : List ByteArray) : Env := { imgE g ⟨#[]⟩ with banks := Bs, cb := nb }
set_option maxRecDepth 20000 in
set_option maxHeartbeats 8000000 in
theorem calls_pick (p : Option Addr) (cap : Nat) (L : List Int) (bk : Int) (win : Bool) (w : World) (hin : RowLow w.heap.size w p .u16 L) (hcap : L.length ≤ cap) (hl : L.length ≤ 9223372036854775807) (hok : ∀ x ∈ L, OkU16 x) (hbk : 0 ≤ bk ∧ bk < 256) :
    Calls Try.prog 7 #[.slice p L.length cap, .int .u8 bk, .bool win] w (EvPost w true) := by
  have HIN := Lib.hid hin
  have HOK := Lib.hid hok
  obtain ⟨n, hn⟩ : ∃ n, min L.length 8 = n := ⟨_, rfl⟩
  have HN : Hid ((L.take 8).length = n) := Lib.hid (by rw [List.length_take]; omega)
  have HNL : Hid (n ≤ L.length) := Lib.hid (by omega)
  have HN8 : Hid (n ≤ 8) := Lib.hid (by omega)
  have HTK : Hid (L.take n = L.take 8) := Lib.hid (by
    rcases Nat.lt_or_ge L.length 8 with h | h
    · rw [List.take_of_length_le (by omega), List.take_of_length_le (by omega)]
    · rw [show n = 8 by omega])
  obtain ⟨b64, hb64⟩ : ∃ b64, bk % 64 = b64 := ⟨_, rfl⟩
  have HB64 : Hid (0 ≤ b64 ∧ b64 < 64) := Lib.hid (by omega)
  have qt : bk.tmod 64 = b64 := by rw [Int.tmod_eq_emod_of_nonneg hbk.1]; exact hb64
  have qu : IntKind.u8.wrap b64 = b64 := by rw [IntKind.wrap_u8]; omega
  have qi : IntKind.i64.wrap b64 = b64 := IntWalk.i64_in _ (by omega)
  have mA : (if (8 : Int) < (L.length : Int) then (8 : Int) else (L.length : Int)) = (n : Int) := by split <;> omega
  have mB : (if 8 < L.length then (8 : Int) else (L.length : Int)) = (n : Int) := by split <;> omega
  have m0 : (0 : Int) ≤ (n : Int) := by omega
  have m3 : (n : Int) ≤ (cap : Int) := by omega
  have m4 : n ≤ cap := by omega
  clear hin hok hn hcap hl hbk hb64
  go_enter Try.func7, Try.ntmps7
  go_wp2_with fail
  refine (sanity_any _).mono ?_
  rintro e w1 ⟨rfl, h1⟩
  have HB1 := Lib.hid h1
  clear h1
  go_wp2_with fail
  clear m3 m4 mA mB m0
  go_loopw [8, 9, 10] (fun u_ s_ i_ wr => ∃ k : Nat, k ≤ n ∧ i_ = .int .i64 (k : Int) ∧ s_ = .string ⟨(bytesI (callP k)).toArray⟩ ∧ u_ = .int .u16 ((L.take k).sum % 65536) ∧ Below w1.heap.size w1 wr) (fun _ _ i_ _ => n - (intOf i_).toNat)
  case atStart => exact ⟨0, Nat.zero_le _, rfl, rfl, rfl, Below.refl _ _⟩
  case round =>
    obtain ⟨k, hk, rfl, rfl, rfl, hb⟩ := hrel
    have HBK := Lib.hid hb
    obtain ⟨S, hS⟩ : ∃ S : ByteArray, (⟨(bytesI (callP k)).toArray⟩ : ByteArray) = S := ⟨_, rfl⟩
    have hSz : S.size ≤ 50 := by
      rw [← hS]
      show (bytesI (callP k)).toArray.size ≤ 50
      rw [List.size_toArray, bytesI, List.length_map, callP_len]
      have := HN8.out
      omega
    have HSz := Lib.hid hSz
    by_cases hlt : k < n
    · have b0 : decide ((k : Int) < (n : Int)) = true := decide_eq_true (by omega)
      have b1 : decide (k < n) = true := decide_eq_true hlt
      have HLT := Lib.hid hlt
      have x2 : IntKind.i64.wrap ((k : Int) + 1) = (k : Int) + 1 := IntWalk.i64_in _ (by have := HN8.out; omega)
      have x3 : IntKind.i64.wrap ((k : Int) + 2) = (k : Int) + 2 := IntWalk.i64_in _ (by have := HN8.out; omega)
      have x4 : IntKind.u16.wrap ((k : Int) + 2) = ((k + 2 : Nat) : Int) := by rw [IntKind.wrap_u16]; have := HN8.out; omega
      obtain ⟨x, hx⟩ := at_some L k (by have := HNL.out; omega)
      have HSUM : Hid ((((L.take k).sum % 65536) + x) % 65536 = (L.take (k + 1)).sum % 65536) := Lib.hid (by
        rw [List.take_add_one, hx, List.sum_append]
        show _ = ((L.take k).sum + (x + 0)) % 65536
        omega)
      obtain ⟨u, hu⟩ : ∃ u, (L.take k).sum % 65536 = u := ⟨_, rfl⟩
      rw [hu] at HSUM ⊢
      have x5 : IntKind.u16.wrap (u + x) = (u + x) % 65536 := by rw [IntKind.wrap_u16]
      obtain ⟨B, off, eB, hB, hcq⟩ := HIN.out k x hx
      subst eB
      have hc1 : wr.cell? ⟨B, off + k, none⟩ = some (.int .u16 x) := ((below_next HB1.out hb).cell (p := ⟨B, off + k, none⟩) hB).trans hcq
      have i0 : (0 : Int) ≤ (k : Int) := by omega
      have i1 : (k : Int) < (n : Int) := by omega
      have HE := Lib.hid fun W => rencode_at 160 15 3 1 ((k + 2 : Nat) : Int) W (encLds k (by have := HN8.out; omega))
      have HS : Hid (S ++ rencB 160 15 1 ((k + 2 : Nat) : Int) ++ ⟨#[33, 1]⟩ = ⟨(bytesI (callP (k + 1))).toArray⟩) := Lib.hid (by
        have h2 : rencL 160 15 1 ((k + 2 : Nat) : Int) = [160, 1, ((k + 2 : Nat) : Int)] := by
          show [(160 : Int), 1, ((k + 2 : Nat) : Int) % 256] = _
          rw [show ((k + 2 : Nat) : Int) % 256 = ((k + 2 : Nat) : Int) by have := HN8.out; omega]
        rw [← hS, show (⟨#[33, 1]⟩ : ByteArray) = ⟨(bytesI [33, 1]).toArray⟩ from rfl]
        unfold rencB
        rw [h2, bytesI_app', bytesI_app', List.append_assoc]
        rfl)
      obtain ⟨T, hT⟩ : ∃ T : ByteArray, rencB 160 15 1 ((k + 2 : Nat) : Int) = T := ⟨_, rfl⟩
      have hTz : T.size ≤ 3 := by rw [← hT]; show (bytesI (rencL 160 15 1 ((k + 2 : Nat) : Int))).toArray.size ≤ 3; rw [List.size_toArray, bytesI, List.length_map]; exact (renc_len _ _ _ _).2
      rw [hT] at HE HS
      rw [hS]
      have t1 : (⟨#[33, 1]⟩ : ByteArray).size = 2 := rfl
      have s1 : (S ++ T : ByteArray).size = S.size + T.size := ByteArray.size_append
      have z1 : ¬ 9223372036854775807 < S.size + T.size := by omega
      have z2 : ¬ 9223372036854775807 < S.size + T.size + 2 := by omega
      clear hS hk hlt hx hB hcq hb hT hu hTz
      go_wp2_with fail
      refine (HE.out _).mono ?_
      rintro e w3 ⟨rfl, h3⟩
      have HB3 := Lib.hid (below_next HBK.out h3)
      clear hc1 h3
      go_wp2_with fail
      go_roundw
      case rel => exact ⟨k + 1, by have := HLT.out; omega, by go_num, by rw [HS.out], by rw [HSUM.out], HB3.out⟩
      case measure => have := HLT.out; simp only [intOf]; omega
    · obtain rfl : k = n := by omega
      have b0 : decide ((k : Int) < (k : Int)) = false := decide_eq_false (by omega)
      have b1 : decide (k < k) = false := decide_eq_false (by omega)
      have HS : Hid (S ++ ⟨#[1]⟩ = callB k) := Lib.hid (by
        rw [← hS, show (⟨#[1]⟩ : ByteArray) = ⟨(bytesI [1]).toArray⟩ from rfl, bytesI_app']
        rfl)
      have z1 : ¬ 9223372036854775807 < S.size + 1 := by omega
      have t1 : (⟨#[1]⟩ : ByteArray).size = 1 := rfl
      have HCZ : Hid ((callB k).size ≤ 1000000000000) := Lib.hid (by
        rw [← HS.out, ByteArray.size_append]
        show S.size + 1 ≤ 1000000000000
        omega)
      have HBX := Lib.hid (below_next HB1.out HBK.out)
      rw [hS, HTK.out]
      obtain ⟨u, hu⟩ : ∃ u, (L.take 8).sum % 65536 = u := ⟨_, rfl⟩
      have HU := Lib.hid hu
      rw [hu]
      clear hS hk hlt hb hSz hu
      go_wp2_with fail
      rw [HS.out]
      have HCG : Hid (∀ W, Calls Try.prog 19 #[.int .i64 64, .string (callB k)] W (PagePost W (pageB 64 (callB k)))) := Lib.hid fun W => page_any 64 (callB k) W (by decide) HCZ.out
      refine (page_any 0 ⟨#[]⟩ _ (by decide) (by decide)).mono ?_
      rintro e w3 ⟨rfl, h3⟩
      obtain ⟨PT, hPT⟩ : ∃ PT, pageB 0 ⟨#[]⟩ = PT := ⟨_, rfl⟩
      obtain ⟨PB, hPB⟩ : ∃ PB, pageB 64 (callB k) = PB := ⟨_, rfl⟩
      have HPB := Lib.hid hPB
      have HZT : Hid (PT.size ≤ maxLen) := Lib.hid (by rw [← hPT, pageB_size]; decide)
      have HZB : Hid (PB.size ≤ maxLen) := Lib.hid (by rw [← hPB, pageB_size]; decide)
      rw [hPB] at HCG
      rw [hPT]
      have HB3 := Lib.hid (below_next HBX.out h3)
      clear h3 hPT hPB z1 t1 b0 b1 HS HCZ
      go_wp2_with fail
      refine (HCG.out _).mono ?_
      rintro e w4 ⟨rfl, h4⟩
      have HB4 := Lib.hid (below_next HB3.out h4)
      clear h4
      go_upto_region 13 with (fail)
      generalize e5 : (w4.alloc _).alloc _ = W5
      have HG5 : Hid (W5.heap[w4.heap.size]? = some (.cells #[.string PT, .string PB] 9 (0, 0))) := Lib.hid (e5 ▸ blk_mid1 w4 _ _)
      have HI5 : Hid (W5.heap[w4.heap.size + 1]? = some (.cells #[.slice (some ⟨w4.heap.size, 0, none⟩) 2 2, .int .u16 0, .int .u16 0, .slice none 0 0, .slice none 0 0] 35 (0, 0))) := Lib.hid (by
        have h9 := alloc_at (w4.alloc (.cells #[.string PT, .string PB] 9)) (.cells #[.slice (some ⟨w4.heap.size, 0, none⟩) 2 2, .int .u16 0, .int .u16 0, .slice none 0 0, .slice none 0 0] 35)
        rw [World.size_alloc] at h9
        rw [← e5]
        exact h9)
      have HB5 : Hid (Below w.heap.size w W5) := Lib.hid (e5 ▸ below_alloc (below_alloc HB4.out _) _)
      have HLI : Hid (w.heap.size ≤ w4.heap.size) := Lib.hid HB4.out.size
      clear e5 HB3 HB4
      go_upto_region 14 with (fail)
      generalize e6 : W5.alloc _ = W6
      have HP6 : Hid (W6.heap[W5.heap.size]? = some (.cells #[.int .i64 1, .int .u16 4160] 66 (0, 0))) := Lib.hid (al_blk e6)
      have HG6 := Lib.hid (at_next (al_bel e6) HG5.out)
      have HI6 := Lib.hid (at_next (al_bel e6) HI5.out)
      have HB6 := Lib.hid (below_next HB5.out (al_bel e6))
      have HLP : Hid (w4.heap.size + 1 < W5.heap.size) := Lib.hid (at_lt HI5.out)
      clear e6 HG5 HI5
      cases win
      · go_wp2_with fail
        refine (HCG.out _).mono ?_
        rintro e w7' ⟨rfl, h7'⟩
        have HG7 := Lib.hid (at_next h7' HG6.out)
        have hi7 := at_next h7' HI6.out
        have hp7 := at_next h7' HP6.out
        have HB7 := Lib.hid (below_next HB6.out h7')
        have HI7 := Lib.hid hi7
        have HP7 := Lib.hid hp7
        have y0 : (w7'.alloc (.cells #[.string PB] 9)).cell? ⟨w4.heap.size + 1, 0, none⟩ = some (.slice (some ⟨w4.heap.size, 0, none⟩) 2 2) := Lib.cell_of_heap (at_next (below1 w7' _) hi7) 0
        have z0 := at_fr (at_next (below1 w7' (.cells #[.string PB] 9)) hi7) 0
        clear h7' hi7 hp7
        go_upto_region 16 with (fail)
        obtain ⟨gB, hgB⟩ : ∃ gB, w7'.heap.size = gB := ⟨_, rfl⟩
        generalize e8 : World.setCell _ _ _ = W8
        have HG8 : Hid (W8.heap[w7'.heap.size]? = some (.cells #[.string PB] 9 (0, 0))) := Lib.hid (sc_oth (A := w4.heap.size + 1) (by have := at_lt HI7.out; omega) (alloc_at w7' (.cells #[.string PB] 9)) e8)
        have HI8 : Hid (W8.heap[w4.heap.size + 1]? = some (.cells #[.slice (some ⟨w7'.heap.size, 0, none⟩) 1 1, .int .u16 0, .int .u16 0, .slice none 0 0, .slice none 0 0] 35 (0, 0))) := Lib.hid (by
          have h9 := sc_blk (at_next (below1 w7' (.cells #[.string PB] 9)) HI7.out) e8
          simp only [lA, lZ, lS] at h9
          exact h9)
        have HP8 := Lib.hid (sc_oth (A := w4.heap.size + 1) (by have := HLP.out; omega) (at_next (below1 w7' (.cells #[.string PB] 9)) HP7.out) e8)
        have HB8 := Lib.hid (sc_bel (below_alloc HB7.out (.cells #[.string PB] 9)) (by have := HLI.out; omega) e8)
        clear e8 y0 z0 HG7 HI7 HP7
        rw [hgB] at HG8 HI8 ⊢
        clear hgB
        have y0 : W8.cell? ⟨W5.heap.size, 0, none⟩ = some (.int .i64 1) := Lib.cell_of_heap HP8.out 0
        have y1 : W8.cell? ⟨W5.heap.size, 1, none⟩ = some (.int .u16 4160) := Lib.cell_of_heap HP8.out 1
        have z0 := at_fr HP8.out 0
        have z1 := at_fr HP8.out 1
        go_upto_region 17 with (fail)
        generalize e9 : World.setCell _ _ _ = WA
        have HPA : Hid (WA.heap[W5.heap.size]? = some (.cells #[.int .i64 0, .int .u16 64] 66 (0, 0))) := Lib.hid (by
          have h9 := sc_blk (sc_blk HP8.out rfl) e9
          simp only [lA, lZ, lS] at h9
          exact h9)
        have HGA := Lib.hid (sc_oth (A := W5.heap.size) (by have := at_lt HG8.out; have := at_lt HP8.out; intro e; rw [e] at HP8; have h9 := HP8.out.symm.trans HG8.out; simp at h9) (sc_oth (A := W5.heap.size) (by intro e; rw [e] at HP8; have h9 := HP8.out.symm.trans HG8.out; simp at h9) HG8.out rfl) e9)
        have HIA := Lib.hid (sc_oth (A := W5.heap.size) (by have := HLP.out; omega) (sc_oth (A := W5.heap.size) (by have := HLP.out; omega) HI8.out rfl) e9)
        have HBA := Lib.hid (sc_bel (A := W5.heap.size) (sc_bel (A := W5.heap.size) HB8.out (Nat.le_trans HLI.out (by have := HLP.out; omega)) rfl) (Nat.le_trans HLI.out (by have := HLP.out; omega)) e9)
        clear e9 y0 y1 z0 z1 HG8 HI8 HP8 HB8
        go_wp2_with (refine wpList_load_row 35 _ rfl rfl (w4.heap.size + 1) rfl #[.slice (some ⟨gB, 0, none⟩) 1 1, .int .u16 0, .int .u16 0, .slice none 0 0, .slice none 0 0] HIA.out Try.underlying35 info35 ?_)
        refine (refStart_any (E := callE gB 1 [PB]) ⟨strs_one (at_next (Below.refl _ _) HGA.out) HZB.out, (show 1 ≤ maxLen by decide), ok16_0, ok16_0⟩).mono ?_
        rintro e w7 ⟨C7, rfl, hs7, h7⟩
        obtain ⟨p1, c1, p2, c2, rfl, hin7⟩ := hs7.cells
        obtain ⟨RS, hRS⟩ : ∃ RS, ramS (fun _ => 0) = RS := ⟨_, rfl⟩
        have HRS := Lib.hid hRS
        rw [hRS]
        have HH7 := Lib.hid h7
        have HIN7 := Lib.hid hin7
        clear hs7 h7 hin7 hRS
        go_wp2_with (refine wpList_store_row 43 _ _ rfl rfl w7.heap.size rfl (snC (startM 0) RS (.slice p1 2 c1) (.slice p2 0 c2)) rfl (alloc_at w7 _) info43 rfl (snC_one _ _ _ _ _ _ _ _) ?_; refine Hid.out ?_)
        generalize e9 : World.setRow _ _ _ = W9
        have HL9 := Lib.hid (law_start HH7.out HIN7.out rfl e9)
        refine Lib.hid ?_
        clear e9 HH7 HIN7
        have y0 : W9.cell? ⟨w7.heap.size, 12, none⟩ = some (.int .i64 0) := HL9.out.cell 12
        have z0 := at_fr HL9.out.x 12
        go_upto_region 19 with (fail)
        generalize e10 : World.setCell _ _ _ = W10
        have HL10 : Hid (LawAt WA w7.heap.size (snC { startM 0 with bank := b64 } RS (.slice p1 2 c1) (.slice p2 0 c2)) (startM 0) (.slice p1 2 c1) (.slice p2 0 c2) W10) := Lib.hid (by
          have h := HL9.out.set e10
          simp only [snC, lA, lZ, lS] at h
          exact h)
        clear e10 HL9 y0 z0
        have HX : Hid (Calls Try.prog 20 #[.agg #[.slice (some ⟨gB, 0, none⟩) 1 1, .int .u16 0, .int .u16 0, .slice none 0 0, .slice none 0 0], .agg #[.slice none 0 0, .slice none 0 0], .agg (snC { startM 0 with bank := b64 } RS (.slice p1 2 c1) (.slice p2 0 c2)), .agg #[.int .i64 0, .int .u16 64], .slice p k cap, .int .i64 100] W10 (fun e w' => ∃ R s f, R 0 = u ∧ RanPost W10 (cend (L.take 8) b64 R s f, (6, 0)) e w')) := Lib.hid (by
          have hb := below_next HBA.out HL10.out.bel
          obtain ⟨hni, hc2⟩ := law_in (E := callE gB 1 [PB]) (m := { startM 0 with bank := b64 }) (strs_one (at_next HL10.out.bel HGA.out) HZB.out) HL10.out.snap rfl ⟨rfl, rfl, rfl, rfl⟩ (call_ok HB64.out.1 HB64.out.2) (row_none _ _ _) (row_none _ _ _) (show 1 ≤ maxLen by decide) ok16_0 ok16_0 (Nat.zero_le _) (Nat.zero_le _) (fun x hx => by cases hx) (fun x hx => by cases hx)
          have hok8 : ∀ x ∈ L.take 8, OkU16 x := fun x hx => HOK.out x (List.mem_of_mem_take hx)
          obtain ⟨R, s, f, hR, hrun⟩ := call_run (E := callE gB 1 [PB]) (n := k) (args := L.take 8) (base := 0) (bk := b64) (b0 := b64) ⟨HPB.out ▸ page_at0 b64 rfl (pageB_size _ _), HN.out, HN8.out, hok8⟩
          have hx := Call_any hni c1 c2 hc2 p cap (L.take 8) (row_low (row_take HIN.out 8) hb) hok8 0 64 ⟨by decide, by decide⟩ ⟨by decide, by decide⟩ (by decide) (by rw [norm_like rfl rfl rfl, HN.out]; have := HN8.out; show 2 + k + 2 ≤ 4096; omega) 100 (by decide) (by show 0 + 100 ≤ 1000000000000; decide)
          have hmm : callMM { startM 0 with bank := b64 } (L.take 8) 0 64 = cm 0 b64 (cst (L.take 8) b64) (fun _ => 0) 0 0 0 := by
            have h1 : callMM { startM 0 with bank := b64 } (L.take 8) 0 64 = cm 0 b64 (cst (L.take 8) (b64 % 65536)) (fun _ => 0) 0 0 0 := by
              unfold callMM
              rw [if_neg (by decide)]
              rfl
            rw [h1, show b64 % 65536 = b64 by have := HB64.out; omega]
          rw [norm_like rfl rfl rfl, hmm, hrun, HRS.out, HN.out] at hx
          exact hx.mono fun e w' h => ⟨R, s, f, hR.trans HU.out, h⟩)
        have hpl := at_next HL10.out.bel HPA.out
        have l0 : W10.cell? ⟨W5.heap.size, 0, none⟩ = some (.int .i64 0) := Lib.cell_of_heap hpl 0
        have l1 : W10.cell? ⟨W5.heap.size, 1, none⟩ = some (.int .u16 64) := Lib.cell_of_heap hpl 1
        clear hpl
        go_wp2_with (first | refine wpList_load_row 35 _ rfl rfl (w4.heap.size + 1) rfl #[.slice (some ⟨gB, 0, none⟩) 1 1, .int .u16 0, .int .u16 0, .slice none 0 0, .slice none 0 0] (at_next HL10.out.bel HIA.out) Try.underlying35 info35 ?_ | refine wpList_load_row 43 _ rfl rfl w7.heap.size rfl (snC { startM 0 with bank := b64 } RS (.slice p1 2 c1) (.slice p2 0 c2)) HL10.out.x Try.underlying43 info43 ?_)
        refine HX.out.mono ?_
        rintro e w13 ⟨R, s9, f9, hR0, C13, rfl, hs13, h13⟩
        obtain ⟨p3, c3, p4, c4, rfl, hin13⟩ := hs13.cells
        obtain ⟨m9, hm9⟩ : ∃ m9, cend (L.take 8) b64 R s9 f9 = m9 := ⟨_, rfl⟩
        dsimp only at hin13 ⊢
        rw [hm9] at hin13 ⊢
        have HM9 := Lib.hid hm9
        have HS13 := Lib.hid hin13
        have HB13 := Lib.hid h13
        have HR0 := Lib.hid hR0
        clear hs13 h13 hin13 hm9 HX l0 l1 hR0
        go_wp2_with (refine wpList_store_row 43 _ _ rfl rfl w13.heap.size rfl (snC m9 (ramS m9.ram) (.slice p3 m9.st.length c3) (.slice p4 m9.out.length c4)) rfl (blk_mid1 w13 _ _) info43 rfl (snC_one _ _ _ _ _ _ _ _) ?_; refine Hid.out ?_)
        generalize e14 : World.setRow _ _ _ = W14
        have HR14 := Lib.hid ((ran_a HB13.out HS13.out rfl).row HB13.out.size e14)
        refine Lib.hid ?_
        clear e14
        go_wp2_with (refine wpList_store_row 46 _ _ rfl rfl (w13.heap.size + 1) rfl #[.int .i64 6, .int .u16 0] rfl HR14.out.t info46 rfl (by simp [Value.oneCell']) ?_; refine Hid.out ?_)
        generalize e15 : World.setRow _ _ _ = W15
        have HR15 := Lib.hid (HR14.out.row2 HB13.out.size e15)
        refine Lib.hid ?_
        clear e15 HR14
        have HSL : Hid (m9.st.length = 2 + k) := Lib.hid (by
          rw [← HM9.out]
          show ([0, 65535] ++ L.take 8 : List Int).length = 2 + k
          rw [List.length_append, HN.out]
          rfl)
        have r0 : W15.cell? ⟨w13.heap.size, 0, none⟩ = some (.int .u16 u) := by rw [show u = m9.R 0 by rw [← HM9.out]; exact HR0.out.symm]; exact Lib.cell_of_heap HR15.out.y 0
        have r12 : W15.cell? ⟨w13.heap.size, 12, none⟩ = some (.int .i64 b64) := by rw [show b64 = m9.bank by rw [← HM9.out]; show b64 = b64 % 64; have := HB64.out; omega]; exact Lib.cell_of_heap HR15.out.y 12
        have r17 : W15.cell? ⟨w13.heap.size, 17, none⟩ = some (.slice p3 (2 + k) c3) := by
          have h9 := Lib.cell_of_heap HR15.out.y 17
          rw [← HSL.out]
          exact h9
        have d0 : W15.cell? ⟨w13.heap.size + 1, 0, none⟩ = some (.int .i64 6) := Lib.cell_of_heap HR15.out.t 0
        have d1 : W15.cell? ⟨w13.heap.size + 1, 1, none⟩ = some (.int .u16 0) := Lib.cell_of_heap HR15.out.t 1
        have q46 : ∀ W, (binOp .neq 46 (.agg #[.int .i64 6, .int .u16 0]) (.agg #[.int .i64 6, .int .u16 0])).run Try.prog W = .ok (.bool false) W := fun W => by rw [neq46]; rfl
        have hg46 := guard46
        have xk : IntKind.i64.wrap (2 + (k : Int)) = 2 + (k : Int) := IntWalk.i64_in _ (by have := HN8.out; omega)
        have xc : ((2 + k : Nat) : Int) = 2 + (k : Int) := by omega
        go_wp2_with fail
        clear q46 hg46 d0 d1 r0 r12 xk
        have KR : Hid (∀ W, Below W15.heap.size W15 W → W.cell? ⟨w13.heap.size, 17, none⟩ = some (.slice p3 (2 + k) c3)) := Lib.hid fun W hW => (hW.cell (p := ⟨w13.heap.size, 17, none⟩) (at_lt HR15.out.y)).trans r17
        have HBZ := Lib.hid (below_next HBA.out (below_next HL10.out.bel HR15.out.bel))
        clear r17
        go_loopw [18] (fun i_ wr => ∃ j : Nat, j ≤ k ∧ i_ = .int .i64 (j : Int) ∧ Below W15.heap.size W15 wr) (fun i_ _ => k - (intOf i_).toNat)
        case atStart => exact ⟨0, Nat.zero_le _, rfl, Below.refl _ _⟩
        case round =>
          obtain ⟨j, hj, rfl, hb⟩ := hrel
          have HBJ := Lib.hid hb
          by_cases hlt : j < k
          · have b0 : decide ((j : Int) < (k : Int)) = true := decide_eq_true (by omega)
            have b1 : decide (j < k) = true := decide_eq_true hlt
            have x2 : IntKind.i64.wrap ((j : Int) + 1) = (j : Int) + 1 := IntWalk.i64_in _ (by have := HN8.out; omega)
            obtain ⟨jj, hjj⟩ : ∃ jj : Nat, 2 + j = jj := ⟨_, rfl⟩
            have x3 : IntKind.i64.wrap (2 + (j : Int)) = (jj : Int) := by rw [IntWalk.i64_in _ (by have := HN8.out; omega)]; omega
            have i0 : (0 : Int) ≤ (j : Int) := by omega
            have i1 : (j : Int) < (k : Int) := by omega
            have j0 : (0 : Int) ≤ (jj : Int) := by omega
            have j1 : (jj : Int) < 2 + (k : Int) := by omega
            have j2 : jj < 2 + k := by omega
            have HLT := Lib.hid hlt
            obtain ⟨x, hx⟩ := at_some L j (by have := HNL.out; omega)
            obtain ⟨B, off, eB, hB, hcq⟩ := HIN.out j x hx
            subst eB
            obtain ⟨g4, hp4, hg4, hcell⟩ := (own_src HR15.out.snap.st).resolve_left (by rw [HSL.out]; omega)
            subst hp4
            have hget : (m9.st.map (Value.int .u16))[2 + j]? = some (.int .u16 x) := by
              have e1 : m9.st = [0, 65535] ++ L.take 8 := by rw [← HM9.out]; rfl
              rw [e1, List.getElem?_map, List.getElem?_append_right (by simp)]
              show ((L.take 8)[2 + j - 2]?).map _ = _
              rw [show 2 + j - 2 = j by omega, List.getElem?_take, if_pos (by have := HN8.out; omega), hx]
              rfl
            have HQ : Hid (∀ W, Below wr.heap.size wr W → W.cell? ⟨w13.heap.size, 17, none⟩ = some (.slice (some ⟨g4, 0, none⟩) (2 + k) c3) ∧ W.cell? ⟨g4, jj, none⟩ = some (.int .u16 x) ∧ W.cell? ⟨B, off + j, none⟩ = some (.int .u16 x)) := Lib.hid fun W hW => by
              have hb2 := below_next HBJ.out hW
              exact ⟨KR.out W hb2, (hb2.cell (p := ⟨g4, jj, none⟩) hg4).trans (hcell _ _ (hjj ▸ hget)), ((below_next HBZ.out hb2).cell (p := ⟨B, off + j, none⟩) hB).trans hcq⟩
            clear hcell hget hg4 hj hb hlt hB hcq hx hjj
            go_upto_region 25 with (fail)
            refine wp_region_flow (S := fun W => Below wr.heap.size wr W) (by kernel_rfl) (by kernel_rfl) (Below.drew (Below.refl _ _)) ?_
            refine Flow.step ?_ ?_ ?_
            rotate_left
            · intro V2 K hS hK
              go_simp
              exact hK _ hS
            simp only [Act.put, lA, lZ, lS]
            refine Flow.step ?_ ?_ ?_
            rotate_left
            · intro V2 K hS hK
              obtain ⟨l17, l4, lb⟩ := HQ.out _ hS
              go_simp
              exact hK _ hS
            simp only [Act.put, lA, lZ, lS]
            refine Flow.step ?_ ?_ ?_
            rotate_left
            · intro V2 K hS hK
              go_simp
              exact hK _ hS
            simp only [Act.put, lA, lZ, lS]
            refine Flow.step ?_ ?_ ?_
            rotate_left
            · intro V2 K hS hK
              go_simp
              exact hK _ hS
            simp only [Act.put, lA, lZ, lS]
            refine Flow.step ?_ ?_ ?_
            rotate_left
            · intro V2 K hS hK
              go_simp
              exact hK _ hS
            simp only [Act.put, lA, lZ, lS]
            refine Flow.step ?_ ?_ ?_
            rotate_left
            · intro V2 K hS hK
              obtain ⟨l17, l4, lb⟩ := HQ.out _ hS
              go_simp
              exact hK _ hS
            simp only [Act.put, lA, lZ, lS]
            refine Flow.step ?_ ?_ ?_
            rotate_left
            · intro V2 K hS hK
              go_simp
              exact hK _ hS
            simp only [Act.put, lA, lZ, lS]
            refine Flow.step ?_ ?_ ?_
            rotate_left
            · intro V2 K hS hK
              go_simp
              exact hK _ hS
            simp only [Act.put, lA, lZ, lS]
            refine Flow.step ?_ ?_ ?_
            rotate_left
            · intro V2 K hS hK
              go_simp
              exact hK _ hS
            simp only [Act.put, lA, lZ, lS]
            refine Flow.step ?_ ?_ ?_
            rotate_left
            · intro V2 K hS hK
              obtain ⟨l17, l4, lb⟩ := HQ.out _ hS
              go_simp
              exact hK _ hS
            simp only [Act.put, lA, lZ, lS]
            refine Flow.step ?_ ?_ ?_
            rotate_left
            · intro V2 K hS hK
              go_simp
              exact hK _ hS
            simp only [Act.put, lA, lZ, lS]
            refine Flow.done ?_
            intro V2 hS
            have HB3' := Lib.hid (below_next HBJ.out hS)
            clear hS
            go_wp2_with fail
            go_roundw
            case rel => exact ⟨j + 1, by have := HLT.out; omega, by go_num, HB3'.out⟩
            case measure => have := HLT.out; simp only [intOf]; omega
          · obtain rfl : j = k := by omega
            have b0 : decide ((j : Int) < (j : Int)) = false := decide_eq_false (by omega)
            have b1 : decide (j < j) = false := decide_eq_false (by omega)
            have HBY := Lib.hid (below_next HBZ.out HBJ.out)
            clear hj hb hlt
            go_wp2_with fail
            exact bodyPost_ret (v := .bool true) (by simp [results, Try.results7, go_sem]) rfl ⟨rfl, HBY.out⟩
      · go_upto_region 17 with (fail)
        go_wp2_with (refine wpList_load_row 35 _ rfl rfl (w4.heap.size + 1) rfl #[.slice (some ⟨w4.heap.size, 0, none⟩) 2 2, .int .u16 0, .int .u16 0, .slice none 0 0, .slice none 0 0] HI6.out Try.underlying35 info35 ?_)
        refine (refStart_any (E := callE w4.heap.size 2 [PT, PB]) ⟨strs_two (at_next (Below.refl _ _) HG6.out) HZB.out HZT.out, (show 2 ≤ maxLen by decide), ok16_0, ok16_0⟩).mono ?_
        rintro e w7 ⟨C7, rfl, hs7, h7⟩
        obtain ⟨p1, c1, p2, c2, rfl, hin7⟩ := hs7.cells
        obtain ⟨RS, hRS⟩ : ∃ RS, ramS (fun _ => 0) = RS := ⟨_, rfl⟩
        have HRS := Lib.hid hRS
        rw [hRS]
        have HH7 := Lib.hid h7
        have HIN7 := Lib.hid hin7
        clear hs7 h7 hin7 hRS
        go_wp2_with (refine wpList_store_row 43 _ _ rfl rfl w7.heap.size rfl (snC (startM 0) RS (.slice p1 2 c1) (.slice p2 0 c2)) rfl (alloc_at w7 _) info43 rfl (snC_one _ _ _ _ _ _ _ _) ?_; refine Hid.out ?_)
        generalize e9 : World.setRow _ _ _ = W9
        have HL9 := Lib.hid (law_start HH7.out HIN7.out rfl e9)
        refine Lib.hid ?_
        clear e9 HH7 HIN7
        have y0 : W9.cell? ⟨w7.heap.size, 12, none⟩ = some (.int .i64 0) := HL9.out.cell 12
        have z0 := at_fr HL9.out.x 12
        go_upto_region 19 with (fail)
        generalize e10 : World.setCell _ _ _ = W10
        have HL10 : Hid (LawAt W6 w7.heap.size (snC { startM 0 with bank := b64 } RS (.slice p1 2 c1) (.slice p2 0 c2)) (startM 0) (.slice p1 2 c1) (.slice p2 0 c2) W10) := Lib.hid (by
          have h := HL9.out.set e10
          simp only [snC, lA, lZ, lS] at h
          exact h)
        clear e10 HL9 y0 z0
        have HX : Hid (Calls Try.prog 20 #[.agg #[.slice (some ⟨w4.heap.size, 0, none⟩) 2 2, .int .u16 0, .int .u16 0, .slice none 0 0, .slice none 0 0], .agg #[.slice none 0 0, .slice none 0 0], .agg (snC { startM 0 with bank := b64 } RS (.slice p1 2 c1) (.slice p2 0 c2)), .agg #[.int .i64 1, .int .u16 4160], .slice p k cap, .int .i64 100] W10 (fun e w' => ∃ R s f, R 0 = u ∧ RanPost W10 (cend (L.take 8) b64 R s f, (6, 0)) e w')) := Lib.hid (by
          have hb := below_next HB6.out HL10.out.bel
          obtain ⟨hni, hc2⟩ := law_in (E := callE w4.heap.size 2 [PT, PB]) (m := { startM 0 with bank := b64 }) (strs_two (at_next HL10.out.bel HG6.out) HZB.out HZT.out) HL10.out.snap rfl ⟨rfl, rfl, rfl, rfl⟩ (call_ok HB64.out.1 HB64.out.2) (row_none _ _ _) (row_none _ _ _) (show 2 ≤ maxLen by decide) ok16_0 ok16_0 (Nat.zero_le _) (Nat.zero_le _) (fun x hx => by cases hx) (fun x hx => by cases hx)
          have hok8 : ∀ x ∈ L.take 8, OkU16 x := fun x hx => HOK.out x (List.mem_of_mem_take hx)
          obtain ⟨R, s, f, hR, hrun⟩ := call_run (E := callE w4.heap.size 2 [PT, PB]) (n := k) (args := L.take 8) (base := 4096) (bk := 1) (b0 := b64) ⟨HPB.out ▸ page_at1 rfl (pageB_size _ _), HN.out, HN8.out, hok8⟩
          have hx := Call_any hni c1 c2 hc2 p cap (L.take 8) (row_low (row_take HIN.out 8) hb) hok8 1 4160 ⟨by decide, by decide⟩ ⟨by decide, by decide⟩ (by decide) (by rw [norm_like rfl rfl rfl, HN.out]; have := HN8.out; show 2 + k + 2 ≤ 4096; omega) 100 (by decide) (by show 0 + 100 ≤ 1000000000000; decide)
          have hmm : callMM { startM 0 with bank := b64 } (L.take 8) 1 4160 = cm 4096 1 (cst (L.take 8) b64) (fun _ => 0) 0 0 0 := by
            have h1 : callMM { startM 0 with bank := b64 } (L.take 8) 1 4160 = cm 4096 1 (cst (L.take 8) (b64 % 65536)) (fun _ => 0) 0 0 0 := by
              unfold callMM
              rw [if_pos (by decide)]
              rfl
            rw [h1, show b64 % 65536 = b64 by have := HB64.out; omega]
          rw [norm_like rfl rfl rfl, hmm, hrun, HRS.out, HN.out] at hx
          exact hx.mono fun e w' h => ⟨R, s, f, hR.trans HU.out, h⟩)
        have hpl := at_next HL10.out.bel HP6.out
        have l0 : W10.cell? ⟨W5.heap.size, 0, none⟩ = some (.int .i64 1) := Lib.cell_of_heap hpl 0
        have l1 : W10.cell? ⟨W5.heap.size, 1, none⟩ = some (.int .u16 4160) := Lib.cell_of_heap hpl 1
        clear hpl
        go_wp2_with (first | refine wpList_load_row 35 _ rfl rfl (w4.heap.size + 1) rfl #[.slice (some ⟨w4.heap.size, 0, none⟩) 2 2, .int .u16 0, .int .u16 0, .slice none 0 0, .slice none 0 0] (at_next HL10.out.bel HI6.out) Try.underlying35 info35 ?_ | refine wpList_load_row 43 _ rfl rfl w7.heap.size rfl (snC { startM 0 with bank := b64 } RS (.slice p1 2 c1) (.slice p2 0 c2)) HL10.out.x Try.underlying43 info43 ?_)
        refine HX.out.mono ?_
        rintro e w13 ⟨R, s9, f9, hR0, C13, rfl, hs13, h13⟩
        obtain ⟨p3, c3, p4, c4, rfl, hin13⟩ := hs13.cells
        obtain ⟨m9, hm9⟩ : ∃ m9, cend (L.take 8) b64 R s9 f9 = m9 := ⟨_, rfl⟩
        dsimp only at hin13 ⊢
        rw [hm9] at hin13 ⊢
        have HM9 := Lib.hid hm9
        have HS13 := Lib.hid hin13
        have HB13 := Lib.hid h13
        have HR0 := Lib.hid hR0
        clear hs13 h13 hin13 hm9 HX l0 l1 hR0
        go_wp2_with (refine wpList_store_row 43 _ _ rfl rfl w13.heap.size rfl (snC m9 (ramS m9.ram) (.slice p3 m9.st.length c3) (.slice p4 m9.out.length c4)) rfl (blk_mid1 w13 _ _) info43 rfl (snC_one _ _ _ _ _ _ _ _) ?_; refine Hid.out ?_)
        generalize e14 : World.setRow _ _ _ = W14
        have HR14 := Lib.hid ((ran_a HB13.out HS13.out rfl).row HB13.out.size e14)
        refine Lib.hid ?_
        clear e14
        go_wp2_with (refine wpList_store_row 46 _ _ rfl rfl (w13.heap.size + 1) rfl #[.int .i64 6, .int .u16 0] rfl HR14.out.t info46 rfl (by simp [Value.oneCell']) ?_; refine Hid.out ?_)
        generalize e15 : World.setRow _ _ _ = W15
        have HR15 := Lib.hid (HR14.out.row2 HB13.out.size e15)
        refine Lib.hid ?_
        clear e15 HR14
        have HSL : Hid (m9.st.length = 2 + k) := Lib.hid (by
          rw [← HM9.out]
          show ([0, 65535] ++ L.take 8 : List Int).length = 2 + k
          rw [List.length_append, HN.out]
          rfl)
        have r0 : W15.cell? ⟨w13.heap.size, 0, none⟩ = some (.int .u16 u) := by rw [show u = m9.R 0 by rw [← HM9.out]; exact HR0.out.symm]; exact Lib.cell_of_heap HR15.out.y 0
        have r12 : W15.cell? ⟨w13.heap.size, 12, none⟩ = some (.int .i64 b64) := by rw [show b64 = m9.bank by rw [← HM9.out]; show b64 = b64 % 64; have := HB64.out; omega]; exact Lib.cell_of_heap HR15.out.y 12
        have r17 : W15.cell? ⟨w13.heap.size, 17, none⟩ = some (.slice p3 (2 + k) c3) := by
          have h9 := Lib.cell_of_heap HR15.out.y 17
          rw [← HSL.out]
          exact h9
        have d0 : W15.cell? ⟨w13.heap.size + 1, 0, none⟩ = some (.int .i64 6) := Lib.cell_of_heap HR15.out.t 0
        have d1 : W15.cell? ⟨w13.heap.size + 1, 1, none⟩ = some (.int .u16 0) := Lib.cell_of_heap HR15.out.t 1
        have q46 : ∀ W, (binOp .neq 46 (.agg #[.int .i64 6, .int .u16 0]) (.agg #[.int .i64 6, .int .u16 0])).run Try.prog W = .ok (.bool false) W := fun W => by rw [neq46]; rfl
        have hg46 := guard46
        have xk : IntKind.i64.wrap (2 + (k : Int)) = 2 + (k : Int) := IntWalk.i64_in _ (by have := HN8.out; omega)
        have xc : ((2 + k : Nat) : Int) = 2 + (k : Int) := by omega
        go_wp2_with fail
        clear q46 hg46 d0 d1 r0 r12 xk
        have KR : Hid (∀ W, Below W15.heap.size W15 W → W.cell? ⟨w13.heap.size, 17, none⟩ = some (.slice p3 (2 + k) c3)) := Lib.hid fun W hW => (hW.cell (p := ⟨w13.heap.size, 17, none⟩) (at_lt HR15.out.y)).trans r17
        have HBZ := Lib.hid (below_next HB6.out (below_next HL10.out.bel HR15.out.bel))
        clear r17
        go_loopw [18] (fun i_ wr => ∃ j : Nat, j ≤ k ∧ i_ = .int .i64 (j : Int) ∧ Below W15.heap.size W15 wr) (fun i_ _ => k - (intOf i_).toNat)
        case atStart => exact ⟨0, Nat.zero_le _, rfl, Below.refl _ _⟩
        case round =>
          obtain ⟨j, hj, rfl, hb⟩ := hrel
          have HBJ := Lib.hid hb
          by_cases hlt : j < k
          · have b0 : decide ((j : Int) < (k : Int)) = true := decide_eq_true (by omega)
            have b1 : decide (j < k) = true := decide_eq_true hlt
            have x2 : IntKind.i64.wrap ((j : Int) + 1) = (j : Int) + 1 := IntWalk.i64_in _ (by have := HN8.out; omega)
            obtain ⟨jj, hjj⟩ : ∃ jj : Nat, 2 + j = jj := ⟨_, rfl⟩
            have x3 : IntKind.i64.wrap (2 + (j : Int)) = (jj : Int) := by rw [IntWalk.i64_in _ (by have := HN8.out; omega)]; omega
            have i0 : (0 : Int) ≤ (j : Int) := by omega
            have i1 : (j : Int) < (k : Int) := by omega
            have j0 : (0 : Int) ≤ (jj : Int) := by omega
            have j1 : (jj : Int) < 2 + (k : Int) := by omega
            have j2 : jj < 2 + k := by omega
            have HLT := Lib.hid hlt
            obtain ⟨x, hx⟩ := at_some L j (by have := HNL.out; omega)
            obtain ⟨B, off, eB, hB, hcq⟩ := HIN.out j x hx
            subst eB
            obtain ⟨g4, hp4, hg4, hcell⟩ := (own_src HR15.out.snap.st).resolve_left (by rw [HSL.out]; omega)
            subst hp4
            have hget : (m9.st.map (Value.int .u16))[2 + j]? = some (.int .u16 x) := by
              have e1 : m9.st = [0, 65535] ++ L.take 8 := by rw [← HM9.out]; rfl
              rw [e1, List.getElem?_map, List.getElem?_append_right (by simp)]
              show ((L.take 8)[2 + j - 2]?).map _ = _
              rw [show 2 + j - 2 = j by omega, List.getElem?_take, if_pos (by have := HN8.out; omega), hx]
              rfl
            have HQ : Hid (∀ W, Below wr.heap.size wr W → W.cell? ⟨w13.heap.size, 17, none⟩ = some (.slice (some ⟨g4, 0, none⟩) (2 + k) c3) ∧ W.cell? ⟨g4, jj, none⟩ = some (.int .u16 x) ∧ W.cell? ⟨B, off + j, none⟩ = some (.int .u16 x)) := Lib.hid fun W hW => by
              have hb2 := below_next HBJ.out hW
              exact ⟨KR.out W hb2, (hb2.cell (p := ⟨g4, jj, none⟩) hg4).trans (hcell _ _ (hjj ▸ hget)), ((below_next HBZ.out hb2).cell (p := ⟨B, off + j, none⟩) hB).trans hcq⟩
            clear hcell hget hg4 hj hb hlt hB hcq hx hjj
            go_upto_region 25 with (fail)
            refine wp_region_flow (S := fun W => Below wr.heap.size wr W) (by kernel_rfl) (by kernel_rfl) (Below.drew (Below.refl _ _)) ?_
            refine Flow.step ?_ ?_ ?_
            rotate_left
            · intro V2 K hS hK
              go_simp
              exact hK _ hS
            simp only [Act.put, lA, lZ, lS]
            refine Flow.step ?_ ?_ ?_
            rotate_left
            · intro V2 K hS hK
              obtain ⟨l17, l4, lb⟩ := HQ.out _ hS
              go_simp
              exact hK _ hS
            simp only [Act.put, lA, lZ, lS]
            refine Flow.step ?_ ?_ ?_
            rotate_left
            · intro V2 K hS hK
              go_simp
              exact hK _ hS
            simp only [Act.put, lA, lZ, lS]
            refine Flow.step ?_ ?_ ?_
            rotate_left
            · intro V2 K hS hK
              go_simp
              exact hK _ hS
            simp only [Act.put, lA, lZ, lS]
            refine Flow.step ?_ ?_ ?_
            rotate_left
            · intro V2 K hS hK
              go_simp
              exact hK _ hS
            simp only [Act.put, lA, lZ, lS]
            refine Flow.step ?_ ?_ ?_
            rotate_left
            · intro V2 K hS hK
              obtain ⟨l17, l4, lb⟩ := HQ.out _ hS
              go_simp
              exact hK _ hS
            simp only [Act.put, lA, lZ, lS]
            refine Flow.step ?_ ?_ ?_
            rotate_left
            · intro V2 K hS hK
              go_simp
              exact hK _ hS
            simp only [Act.put, lA, lZ, lS]
            refine Flow.step ?_ ?_ ?_
            rotate_left
            · intro V2 K hS hK
              go_simp
              exact hK _ hS
            simp only [Act.put, lA, lZ, lS]
            refine Flow.step ?_ ?_ ?_
            rotate_left
            · intro V2 K hS hK
              go_simp
              exact hK _ hS
            simp only [Act.put, lA, lZ, lS]
            refine Flow.step ?_ ?_ ?_
            rotate_left
            · intro V2 K hS hK
              obtain ⟨l17, l4, lb⟩ := HQ.out _ hS
              go_simp
              exact hK _ hS
            simp only [Act.put, lA, lZ, lS]
            refine Flow.step ?_ ?_ ?_
            rotate_left
            · intro V2 K hS hK
              go_simp
              exact hK _ hS
            simp only [Act.put, lA, lZ, lS]
            refine Flow.done ?_
            intro V2 hS
            have HB3' := Lib.hid (below_next HBJ.out hS)
            clear hS
            go_wp2_with fail
            go_roundw
            case rel => exact ⟨j + 1, by have := HLT.out; omega, by go_num, HB3'.out⟩
            case measure => have := HLT.out; simp only [intOf]; omega
          · obtain rfl : j = k := by omega
            have b0 : decide ((j : Int) < (j : Int)) = false := decide_eq_false (by omega)
            have b1 : decide (j < j) = false := decide_eq_false (by omega)
            have HBY := Lib.hid (below_next HBZ.out HBJ.out)
            clear hj hb hlt
            go_wp2_with fail
            exact bodyPost_ret (v := .bool true) (by simp [results, Try.results7, go_sem]) rfl ⟨rfl, HBY.out⟩
theorem cpuCalls_walk (p : Option Addr) (cap : Nat) (L : List Int) (bk : Int) (win : Bool) (w : World) (hl : L.length ≤ 9223372036854775807) (hcap : L.length ≤ cap) (hin : RowLow w.heap.size w p .u16 L) (hok : ∀ x ∈ L, OkU16 x) (b0 : 0 ≤ bk) (b1 : bk < 256) :
    Calls Try.prog 7 #[.slice p L.length cap, .int .u8 bk, .bool win] w fun e w' => e = .returned (.bool true) ∧ Below w.heap.size w w' :=
  calls_pick p cap L bk win w hin hcap hl hok ⟨b0, b1⟩
end Go.Proofs.Ytieaicdihingkaa
