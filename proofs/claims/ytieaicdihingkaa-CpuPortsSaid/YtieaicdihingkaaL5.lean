/- CpuPorts: the walk. -/
import Derived.Test.YtieaicdihingkaaPP
import Derived.Test.YtieaicdihingkaaK32
namespace Go.Proofs.Ytieaicdihingkaa
set_option linter.unusedVariables false
set_option linter.unusedSimpArgs false
open Go.RowKit
theorem neq46 (a b c d : Int) (W : World) : (binOp .neq 46 (.agg #[.int .i64 a, .int .u16 b]) (.agg #[.int .i64 c, .int .u16 d])).run Try.prog W = .ok (.bool (!(a == c && b == d))) W := by
  rw [run_neq_struct, run_equalIn_agg W 9999 46 _ _ fields46 stood46]
  have hf : (Try.prog.fieldsOf 46).toList = (match Try.prog.underlying 46 with | some (.struct f) => f.toList | _ => []) := by kernel_rfl
  rw [hf, Try.underlying46]
  simp [Op.eqFields, go_sem]
  by_cases h1 : a = c
  · by_cases h2 : b = d <;> simp [h1, h2]
  · simp [h1]
theorem bytes_one (W9 V : World) (x : UInt8) (h : Below (W9.alloc (.cells #[.int .u8 (x.toNat : Int)] 5)).heap.size (W9.alloc (.cells #[.int .u8 (x.toNat : Int)] 5)) V) : (convert 49 9 (.slice (some ⟨W9.heap.size, 0, none⟩) 1 1)).run Try.prog V = .ok (.string ⟨#[x]⟩) V := by
  have hr := run_convert_bytes_back (P := Try.prog) V 49 9 5 ⟨W9.heap.size, 0, none⟩ 1 [x] Try.underlying49 Try.underlying5 Try.underlying9 (by
    intro j hj
    have : j = 0 := by simpa using hj
    subst this
    have h1 := (h.block W9.heap.size (by simp)).trans (alloc_at W9 _)
    rw [show (⟨W9.heap.size, 0, none⟩ : Addr).add 0 = ⟨W9.heap.size, 0, none⟩ from by unfold Addr.add; split <;> simp_all]
    rw [Lib.cell_of_heap h1 0]
    rfl)
  exact hr
set_option maxRecDepth 20000 in
set_option maxHeartbeats 8000000 in
theorem ports_pick (p : Option Addr) (cap : Nat) (tin : List Int) (p8 : UInt8) (v : Int) (w : World) (hin : RowLow w.heap.size w p .u16 tin) (hcap : tin.length ≤ cap) (hl : tin.length ≤ 9223372036854775807) (hok : ∀ x ∈ tin, OkU16 x) (hv : 0 ≤ v ∧ v < 65536) :
    Calls Try.prog 5 #[.slice p tin.length cap, .int .u8 (p8.toNat : Int), .int .u16 v] w (EvPost w true) := by
  have HIN := Lib.hid hin
  have HCAP := Lib.hid hcap
  have HL := Lib.hid hl
  have HOK := Lib.hid hok
  have HV := Lib.hid hv
  obtain ⟨n, hn⟩ : ∃ n, min tin.length 10 = n := ⟨_, rfl⟩
  have HN : Hid ((tin.take 10).length = n) := Lib.hid (by rw [List.length_take]; omega)
  have HN10 : Hid (n ≤ 10) := Lib.hid (by omega)
  have mA : (if (10 : Int) < (tin.length : Int) then (10 : Int) else (tin.length : Int)) = (n : Int) := by split <;> omega
  have mB : (if 10 < tin.length then (10 : Int) else (tin.length : Int)) = (n : Int) := by split <;> omega
  have m0 : (0 : Int) ≤ (n : Int) := by omega
  have m3 : (n : Int) ≤ (cap : Int) := by omega
  have m4 : n ≤ cap := by omega
  have m1 := m0
  clear hin hcap hl hok hv hn
  go_enter Try.func5, Try.ntmps5
  go_wp2_with fail
  refine (sanity_any _).mono ?_
  rintro e w1 ⟨rfl, h1⟩
  have HB1 := Lib.hid h1
  have hcv := bytes_one w1 (w1.alloc (.cells #[.int .u8 (p8.toNat : Int)] 5)) p8 (Below.refl _ _)
  clear h1
  go_wp2_with fail
  have HB2 := Lib.hid (below_alloc HB1.out (Obj.cells #[.int .u8 (p8.toNat : Int)] 5))
  clear hcv m1 m3 m4 mA mB m0
  generalize w1.alloc _ = W2 at *
  go_loopw [9, 10] (fun s_ i_ wr => ∃ k : Nat, k ≤ n + 1 ∧ i_ = .int .i64 (k : Int) ∧ s_ = .string ⟨(portsL p8 k).toArray⟩ ∧ wr = W2) (fun _ i_ _ => n + 1 - (intOf i_).toNat)
  case atStart => exact ⟨0, Nat.zero_le _, rfl, rfl, rfl⟩
  case round =>
    obtain ⟨k, hk, rfl, rfl, rfl⟩ := hrel
    have HK := Lib.hid hk
    by_cases hlt : k ≤ n
    · have b0 : decide ((k : Int) ≤ (n : Int)) = true := decide_eq_true (by omega)
      have b1 : decide (k ≤ n) = true := decide_eq_true hlt
      have HLT := Lib.hid hlt
      have x2 : IntKind.i64.wrap ((k : Int) + 1) = (k : Int) + 1 := IntWalk.i64_in _ (by have := HN10.out; omega)
      obtain ⟨S, hS⟩ : ∃ S : ByteArray, (⟨(portsL p8 k).toArray⟩ : ByteArray) = S := ⟨_, rfl⟩
      have hSz : S.size ≤ 100 := by
        rw [← hS]
        show (portsL p8 k).toArray.size ≤ 100
        unfold portsL
        rw [List.size_toArray, List.length_append, rounds_length]
        have := HN10.out
        simp
        omega
      have HS : Hid (S ++ ⟨#[144, 1]⟩ ++ ⟨#[p8]⟩ ++ ⟨#[145, 1]⟩ ++ ⟨#[p8]⟩ = ⟨(portsL p8 (k + 1)).toArray⟩) := Lib.hid (by
        rw [← hS]
        apply ByteArray.ext
        simp [ByteArray.data_append, portsL, rounds])
      rw [hS]
      clear hS hk hlt
      have s1 : (S ++ ⟨#[144, 1]⟩ : ByteArray).size = S.size + 2 := by rw [ByteArray.size_append]; rfl
      have s2 : (S ++ ⟨#[144, 1]⟩ ++ ⟨#[p8]⟩ : ByteArray).size = S.size + 3 := by rw [ByteArray.size_append, s1]; rfl
      have s3 : (S ++ ⟨#[144, 1]⟩ ++ ⟨#[p8]⟩ ++ ⟨#[145, 1]⟩ : ByteArray).size = S.size + 5 := by rw [ByteArray.size_append, s2]; rfl
      have t1 : (⟨#[144, 1]⟩ : ByteArray).size = 2 := rfl
      have t2 : (⟨#[p8]⟩ : ByteArray).size = 1 := rfl
      have t3 : (⟨#[145, 1]⟩ : ByteArray).size = 2 := rfl
      have z1 : ¬ 9223372036854775807 < S.size + 2 := by omega
      have z2 : ¬ 9223372036854775807 < S.size + 2 + 1 := by omega
      have z3 : ¬ 9223372036854775807 < S.size + 3 + 2 := by omega
      have z4 : ¬ 9223372036854775807 < S.size + 5 + 1 := by omega
      have z5 : ¬ 9223372036854775807 < S.size + 3 := by omega
      have z6 : ¬ 9223372036854775807 < S.size + 5 := by omega
      have z7 : ¬ 9223372036854775807 < S.size + 6 := by omega
      go_wp2_with fail
      go_roundw
      case rel => exact ⟨k + 1, by have := HLT.out; omega, by go_num, by rw [HS.out], trivial⟩
      case measure => have := HLT.out; simp only [intOf]; omega
    · obtain rfl : k = n + 1 := by omega
      have b0 : decide (((n + 1 : Nat) : Int) ≤ (n : Int)) = false := decide_eq_false (by omega)
      have b1 : decide (n + 1 ≤ n) = false := decide_eq_false (by omega)
      obtain ⟨S, hS⟩ : ∃ S : ByteArray, (⟨(portsL p8 (n + 1)).toArray⟩ : ByteArray) = S := ⟨_, rfl⟩
      have hSz : S.size ≤ 100 := by
        rw [← hS]
        show (portsL p8 (n + 1)).toArray.size ≤ 100
        unfold portsL
        rw [List.size_toArray, List.length_append, rounds_length]
        have := HN10.out
        simp
        omega
      have HS : Hid (S ++ ⟨#[2]⟩ = portsB p8 n) := Lib.hid (by
        rw [← hS]
        apply ByteArray.ext
        simp [ByteArray.data_append, portsB])
      have HPS : Hid ((portsB p8 n).size ≤ 200) := Lib.hid (by
        rw [← HS.out, ByteArray.size_append]
        show S.size + 1 ≤ 200
        omega)
      rw [hS]
      clear hS hk hlt
      have t1 : (⟨#[2]⟩ : ByteArray).size = 1 := rfl
      have z1 : ¬ 9223372036854775807 < S.size + 1 := by omega
      go_wp2_with fail
      rw [HS.out]
      refine (image_any (portsB p8 n) _ (by have := HPS.out; omega)).mono ?_
      rintro e w3 ⟨g3, rfl, hc3, hg3, h3⟩
      have HI3 := Lib.hid (imgE_in hc3 hg3 (by rw [pageB_size]; decide))
      have HB3 := Lib.hid (below_next HB2.out h3)
      have HB4 := Lib.hid (below_alloc HB3.out (Obj.cells #[.slice (some ⟨g3, 0, none⟩) 1 1, .int .u16 0, .int .u16 0, .slice none 0 0, .slice none 0 0] 35))
      have KI : Hid (∀ W, Below (w3.alloc (Obj.cells #[.slice (some ⟨g3, 0, none⟩) 1 1, .int .u16 0, .int .u16 0, .slice none 0 0, .slice none 0 0] 35)).heap.size (w3.alloc (Obj.cells #[.slice (some ⟨g3, 0, none⟩) 1 1, .int .u16 0, .int .u16 0, .slice none 0 0, .slice none 0 0] 35)) W → W.heap[w3.heap.size]? = some (.cells #[.slice (some ⟨g3, 0, none⟩) 1 1, .int .u16 0, .int .u16 0, .slice none 0 0, .slice none 0 0] 35 (0, 0)) ∧ ImgIn W (imgE g3 (pageB 0 (portsB p8 n)))) := Lib.hid fun W hW => ⟨(hW.block _ (by simp)).trans (alloc_at w3 _), (HI3.out.next (below1 w3 _)).next hW⟩
      clear hc3 hg3 h3 t1 z1 hSz b0 b1
      go_upto_region 10 with (fail)
      generalize w3.alloc _ = W4 at *
      go_wp2_with (refine wpList_load_row 35 _ rfl rfl w3.heap.size rfl #[.slice (some ⟨g3, 0, none⟩) 1 1, .int .u16 0, .int .u16 0, .slice none 0 0, .slice none 0 0] (KI.out _ (Below.refl _ _)).1 Try.underlying35 info35 ?_)
      refine (refStart_any (E := imgE g3 (pageB 0 (portsB p8 n))) (KI.out _ (Below.refl _ _)).2).mono ?_
      rintro e w5 ⟨C5, rfl, hs5, h5⟩
      obtain ⟨p1, c1, p2, c2, hC, hin5⟩ := hs5
      injection hC with hC
      subst hC
      have HS5 : Hid (SnapIn W4 w5 (startM 0) (.slice p1 2 c1) (.slice p2 0 c2)) := Lib.hid hin5
      have HB5 := Lib.hid (below_next HB4.out h5)
      have HB45 := Lib.hid h5
      clear hin5 h5
      obtain ⟨RS, hRS⟩ : ∃ RS, ramS (fun _ => 0) = RS := ⟨_, rfl⟩
      have HRS := Lib.hid hRS
      have HN6 : Hid ((w5.alloc (.cells #[.int .u16 0, .int .u16 0, .int .u16 0, .int .u16 0, .int .u16 0, .int .u16 0, .int .u16 0, .int .u16 0, .int .u16 0, .int .u16 0, .int .u16 0, .int .u16 0, .int .i64 0, .int .i64 0, .int .i64 0, .int .i64 0, .string ⟨#[]⟩, .slice none 0 0, .slice none 0 0] 43)).heap[w5.heap.size]? = some (.cells #[.int .u16 0, .int .u16 0, .int .u16 0, .int .u16 0, .int .u16 0, .int .u16 0, .int .u16 0, .int .u16 0, .int .u16 0, .int .u16 0, .int .u16 0, .int .u16 0, .int .i64 0, .int .i64 0, .int .i64 0, .int .i64 0, .string ⟨#[]⟩, .slice none 0 0, .slice none 0 0] 43 (0, 0))) := Lib.hid (alloc_at w5 _)
      have HB6 := Lib.hid (below_alloc HB45.out (Obj.cells #[.int .u16 0, .int .u16 0, .int .u16 0, .int .u16 0, .int .u16 0, .int .u16 0, .int .u16 0, .int .u16 0, .int .u16 0, .int .u16 0, .int .u16 0, .int .u16 0, .int .i64 0, .int .i64 0, .int .i64 0, .int .i64 0, .string ⟨#[]⟩, .slice none 0 0, .slice none 0 0] 43))
      have HBW6 := Lib.hid (below_alloc HB5.out (Obj.cells #[.int .u16 0, .int .u16 0, .int .u16 0, .int .u16 0, .int .u16 0, .int .u16 0, .int .u16 0, .int .u16 0, .int .u16 0, .int .u16 0, .int .u16 0, .int .u16 0, .int .i64 0, .int .i64 0, .int .i64 0, .int .i64 0, .string ⟨#[]⟩, .slice none 0 0, .slice none 0 0] 43))
      have HS6 := Lib.hid (HS5.out.next (below1 w5 (Obj.cells #[.int .u16 0, .int .u16 0, .int .u16 0, .int .u16 0, .int .u16 0, .int .u16 0, .int .u16 0, .int .u16 0, .int .u16 0, .int .u16 0, .int .u16 0, .int .u16 0, .int .i64 0, .int .i64 0, .int .i64 0, .int .i64 0, .string ⟨#[]⟩, .slice none 0 0, .slice none 0 0] 43)))
      have HLE5 : Hid (W4.heap.size ≤ w5.heap.size) := Lib.hid HB45.out.size
      have HLW5 : Hid (w.heap.size ≤ w5.heap.size) := Lib.hid HB5.out.size
      rw [hRS]
      clear hRS
      go_wp2_with (refine wpList_store_row 43 _ _ rfl rfl w5.heap.size rfl #[.int .u16 0, .int .u16 0, .int .u16 0, .int .u16 0, .int .u16 0, .int .u16 0, .int .u16 0, .int .u16 0, .int .u16 0, .int .u16 2, .int .u16 0, .int .u16 0, .int .i64 0, .int .i64 0, .int .i64 0, .int .i64 0, .string RS, .slice p1 2 c1, .slice p2 0 c2] rfl HN6.out info43 rfl (by simp [Value.oneCell']) ?_; refine Hid.out ?_)
      have HA7 := Lib.hid (setRow_heap _ _ _ #[.int .u16 0, .int .u16 0, .int .u16 0, .int .u16 0, .int .u16 0, .int .u16 0, .int .u16 0, .int .u16 0, .int .u16 0, .int .u16 2, .int .u16 0, .int .u16 0, .int .i64 0, .int .i64 0, .int .i64 0, .int .i64 0, .string RS, .slice p1 2 c1, .slice p2 0 c2] _ _ HN6.out)
      have HS7 := Lib.hid (snap_row2 (C := #[.int .u16 0, .int .u16 0, .int .u16 0, .int .u16 0, .int .u16 0, .int .u16 0, .int .u16 0, .int .u16 0, .int .u16 0, .int .u16 2, .int .u16 0, .int .u16 0, .int .i64 0, .int .i64 0, .int .i64 0, .int .i64 0, .string RS, .slice p1 2 c1, .slice p2 0 c2]) (by decide) HN6.out HS6.out)
      have HB7 := Lib.hid (setRow_below (C := #[.int .u16 0, .int .u16 0, .int .u16 0, .int .u16 0, .int .u16 0, .int .u16 0, .int .u16 0, .int .u16 0, .int .u16 0, .int .u16 2, .int .u16 0, .int .u16 0, .int .i64 0, .int .i64 0, .int .i64 0, .int .i64 0, .string RS, .slice p1 2 c1, .slice p2 0 c2]) HB6.out HLE5.out)
      have HBW7 := Lib.hid (setRow_below (C := #[.int .u16 0, .int .u16 0, .int .u16 0, .int .u16 0, .int .u16 0, .int .u16 0, .int .u16 0, .int .u16 0, .int .u16 0, .int .u16 2, .int .u16 0, .int .u16 0, .int .i64 0, .int .i64 0, .int .i64 0, .int .i64 0, .string RS, .slice p1 2 c1, .slice p2 0 c2]) HBW6.out HLW5.out)
      generalize World.setRow _ _ _ = W7 at *
      refine Lib.hid ?_
      have y7 : W7.cell? ⟨w5.heap.size, 7, none⟩ = some (.int .u16 0) := Lib.cell_of_heap HA7.out 7
      have z7 : W7.frozen? ⟨w5.heap.size, 7, none⟩ = false := by unfold World.frozen?; rw [HA7.out]; simp
      go_upto_region 12 with (fail)
      have HA8 : Hid ((W7.setCell ⟨w5.heap.size, 7, none⟩ (.int .u16 v)).heap[w5.heap.size]? = some (.cells #[.int .u16 0, .int .u16 0, .int .u16 0, .int .u16 0, .int .u16 0, .int .u16 0, .int .u16 0, .int .u16 v, .int .u16 0, .int .u16 2, .int .u16 0, .int .u16 0, .int .i64 0, .int .i64 0, .int .i64 0, .int .i64 0, .string RS, .slice p1 2 c1, .slice p2 0 c2] 43 (0, 0))) := Lib.hid (by
        have h9 := setCell_blk (k := 7) (v := .int .u16 v) HA7.out
        simp only [lA, lZ, lS] at h9
        exact h9)
      have HS8 : Hid (SnapIn W4 (W7.setCell ⟨w5.heap.size, 7, none⟩ (.int .u16 v)) (startM 0) (.slice p1 2 c1) (.slice p2 0 c2)) := Lib.hid ⟨own_set' HS7.out.st HA7.out (by decide), own_set' HS7.out.out HA7.out (by decide)⟩
      have HB8 := Lib.hid (HB7.out.setCell (p := ⟨w5.heap.size, 7, none⟩) HLE5.out (.int .u16 v))
      have HBW8 := Lib.hid (HBW7.out.setCell (p := ⟨w5.heap.size, 7, none⟩) HLW5.out (.int .u16 v))
      clear y7 z7
      generalize W7.setCell _ _ = W8 at *
      have hnorm : normM (pstart v) RS [0, 65535] = pstart v := by
        have h9 := norm_startM 0
        rw [HRS.out] at h9
        unfold pstart
        rw [← h9]
        rfl
      have HNI : Hid (NormIn W8 { imgE g3 (pageB 0 (portsB p8 n)) with pin := p, cin := cap, tin := tin.take 10 } (pstart v) RS [0, 65535] p1 p2) := Lib.hid (by
        have hi := (KI.out W8 HB8.out).2
        have hok := startM_ok ok16_0
        obtain ⟨a1, a2, a3, a4, a5, a6, a7, a8, a9, a10, a11, a12, a13, a14⟩ := hok
        refine ⟨hi.strs, ?_, fun k n hk => (by cases hk), own_sliceAt HS8.out.st, own_src HS8.out.out, ?_, ok16_2, hi.banks, hi.entry, hi.vector, ?_, Nat.zero_le _, fun x hx => HOK.out x (List.mem_of_mem_take hx), fun x hx => (by cases hx), ?_, by decide⟩
        · intro k x hk
          have hk2 : tin[k]? = some x := by
            have := List.getElem?_take (l := tin) (i := 10) (j := k)
            rw [this] at hk
            split at hk
            · exact hk
            · cases hk
          obtain ⟨B, off, e, hB, hc⟩ := HIN.out.keeps (Keeps.of_below HBW8.out) k x hk2
          exact ⟨B, off, e, Nat.lt_of_lt_of_le hB HBW8.out.size, hc⟩
        · rw [hnorm]
          refine ⟨fun k => ?_, a2, a3, a4, a5, a6, a7, a8, a9, a10, a11, a12, a13, a14⟩
          show OkU16 (setR (fun _ => 0) 7 v k)
          unfold setR
          split
          · exact HV.out
          · exact ok16_0
        · show (tin.take 10).length ≤ _
          rw [HN.out]
          have := HN10.out
          unfold maxLen
          omega
        · rw [← HRS.out, ramS_size]; decide)
      have hc2 : 2 ≤ c1 := by
        rcases HS8.out.st.2 with ⟨_, h0⟩ | ⟨q, cq, cur, e1, _, _, hnc, _⟩
        · exact absurd h0 (by decide)
        · injection e1 with _ _ e3
          subst e3
          exact hnc
      obtain ⟨R9, hR9, hrun⟩ := ports_run (E := { imgE g3 (pageB 0 (portsB p8 n)) with pin := p, cin := cap, tin := tin.take 10 }) (p8 := p8) (n := n) (v := v) rfl HN.out HN10.out HV.out
      obtain ⟨m9, hm9⟩ : ∃ m9, pm (tin.take 10) (p8.toNat : Int) v (n + 1) R9 = m9 := ⟨_, rfl⟩
      have HM9 := Lib.hid hm9
      have HR9 := Lib.hid hR9
      have hx := Run_any HNI.out c1 c2 hc2 1000 (by decide) (by show 0 + 1000 ≤ 1000000000000; decide)
      rw [hnorm, hrun] at hx
      dsimp only at hx
      rw [HN.out, hm9] at hx
      have HX := Lib.hid hx
      clear hx hnorm hc2 hrun hm9 hR9
      go_wp2_with (first | refine wpList_load_row 35 _ rfl rfl w3.heap.size rfl #[.slice (some ⟨g3, 0, none⟩) 1 1, .int .u16 0, .int .u16 0, .slice none 0 0, .slice none 0 0] (KI.out _ HB8.out).1 Try.underlying35 info35 ?_ | refine wpList_load_row 43 _ rfl rfl w5.heap.size rfl #[.int .u16 0, .int .u16 0, .int .u16 0, .int .u16 0, .int .u16 0, .int .u16 0, .int .u16 0, .int .u16 v, .int .u16 0, .int .u16 2, .int .u16 0, .int .u16 0, .int .i64 0, .int .i64 0, .int .i64 0, .int .i64 0, .string RS, .slice p1 2 c1, .slice p2 0 c2] HA8.out Try.underlying43 info43 ?_)
      refine HX.out.mono ?_
      rintro e w9 ⟨C9, rfl, ⟨p3, c3, p4, c4, hC9, hin9⟩, h9⟩
      dsimp only at hC9 hin9 ⊢
      injection hC9 with hC9
      subst hC9
      have HS9 := Lib.hid hin9
      have HB9 := Lib.hid (below_next HBW8.out h9)
      have HNA : Hid (((w9.alloc (.cells #[.int .u16 0, .int .u16 0, .int .u16 0, .int .u16 0, .int .u16 0, .int .u16 0, .int .u16 0, .int .u16 0, .int .u16 0, .int .u16 0, .int .u16 0, .int .u16 0, .int .i64 0, .int .i64 0, .int .i64 0, .int .i64 0, .string ⟨#[]⟩, .slice none 0 0, .slice none 0 0] 43)).alloc (.cells #[.int .i64 0, .int .u16 0] 46)).heap[w9.heap.size]? = some (.cells #[.int .u16 0, .int .u16 0, .int .u16 0, .int .u16 0, .int .u16 0, .int .u16 0, .int .u16 0, .int .u16 0, .int .u16 0, .int .u16 0, .int .u16 0, .int .u16 0, .int .i64 0, .int .i64 0, .int .i64 0, .int .i64 0, .string ⟨#[]⟩, .slice none 0 0, .slice none 0 0] 43 (0, 0))) := Lib.hid (blk_mid1 w9 _ _)
      have HND : Hid (((w9.alloc (.cells #[.int .u16 0, .int .u16 0, .int .u16 0, .int .u16 0, .int .u16 0, .int .u16 0, .int .u16 0, .int .u16 0, .int .u16 0, .int .u16 0, .int .u16 0, .int .u16 0, .int .i64 0, .int .i64 0, .int .i64 0, .int .i64 0, .string ⟨#[]⟩, .slice none 0 0, .slice none 0 0] 43)).alloc (.cells #[.int .i64 0, .int .u16 0] 46)).heap[w9.heap.size + 1]? = some (.cells #[.int .i64 0, .int .u16 0] 46 (0, 0))) := Lib.hid (by
        have h8 := alloc_at (w9.alloc (.cells #[.int .u16 0, .int .u16 0, .int .u16 0, .int .u16 0, .int .u16 0, .int .u16 0, .int .u16 0, .int .u16 0, .int .u16 0, .int .u16 0, .int .u16 0, .int .u16 0, .int .i64 0, .int .i64 0, .int .i64 0, .int .i64 0, .string ⟨#[]⟩, .slice none 0 0, .slice none 0 0] 43)) (.cells #[.int .i64 0, .int .u16 0] 46)
        rw [World.size_alloc] at h8
        exact h8)
      have HBA := Lib.hid (below_alloc (below_alloc HB9.out (Obj.cells #[.int .u16 0, .int .u16 0, .int .u16 0, .int .u16 0, .int .u16 0, .int .u16 0, .int .u16 0, .int .u16 0, .int .u16 0, .int .u16 0, .int .u16 0, .int .u16 0, .int .i64 0, .int .i64 0, .int .i64 0, .int .i64 0, .string ⟨#[]⟩, .slice none 0 0, .slice none 0 0] 43)) (Obj.cells #[.int .i64 0, .int .u16 0] 46))
      have HSA := Lib.hid ((HS9.out.next (below1 w9 (Obj.cells #[.int .u16 0, .int .u16 0, .int .u16 0, .int .u16 0, .int .u16 0, .int .u16 0, .int .u16 0, .int .u16 0, .int .u16 0, .int .u16 0, .int .u16 0, .int .u16 0, .int .i64 0, .int .i64 0, .int .i64 0, .int .i64 0, .string ⟨#[]⟩, .slice none 0 0, .slice none 0 0] 43))).next (below1 _ (Obj.cells #[.int .i64 0, .int .u16 0] 46)))
      have HLW9 : Hid (w.heap.size ≤ w9.heap.size) := Lib.hid HB9.out.size
      clear hin9 h9 HX HNI HA8 HS8 HB8 HBW8 HA7 HS7 HB7 HBW7 KI HRS HS5 HB5 HB45 HN6 HB6 HBW6 HS6
      go_wp2_with (refine wpList_store_row 43 _ _ rfl rfl w9.heap.size rfl #[.int .u16 (m9.R 0), .int .u16 (m9.R 1), .int .u16 (m9.R 2), .int .u16 (m9.R 3), .int .u16 (m9.R 4), .int .u16 (m9.R 5), .int .u16 (m9.R 6), .int .u16 (m9.R 7), .int .u16 m9.pc, .int .u16 m9.sp, .int .u16 m9.fp, .int .u16 m9.f, .int .i64 m9.bank, .int .i64 m9.steps, .int .i64 m9.inputs, .int .i64 m9.polls, .string (ramS m9.ram), .slice p3 m9.st.length c3, .slice p4 m9.out.length c4] rfl HNA.out info43 rfl (by simp [Value.oneCell']) ?_; refine Hid.out ?_)
      have HA10 := Lib.hid (setRow_heap _ _ _ #[.int .u16 (m9.R 0), .int .u16 (m9.R 1), .int .u16 (m9.R 2), .int .u16 (m9.R 3), .int .u16 (m9.R 4), .int .u16 (m9.R 5), .int .u16 (m9.R 6), .int .u16 (m9.R 7), .int .u16 m9.pc, .int .u16 m9.sp, .int .u16 m9.fp, .int .u16 m9.f, .int .i64 m9.bank, .int .i64 m9.steps, .int .i64 m9.inputs, .int .i64 m9.polls, .string (ramS m9.ram), .slice p3 m9.st.length c3, .slice p4 m9.out.length c4] _ _ HNA.out)
      have HD10 := Lib.hid ((setRow_other _ w9.heap.size (w9.heap.size + 1) #[.int .u16 (m9.R 0), .int .u16 (m9.R 1), .int .u16 (m9.R 2), .int .u16 (m9.R 3), .int .u16 (m9.R 4), .int .u16 (m9.R 5), .int .u16 (m9.R 6), .int .u16 (m9.R 7), .int .u16 m9.pc, .int .u16 m9.sp, .int .u16 m9.fp, .int .u16 m9.f, .int .i64 m9.bank, .int .i64 m9.steps, .int .i64 m9.inputs, .int .i64 m9.polls, .string (ramS m9.ram), .slice p3 m9.st.length c3, .slice p4 m9.out.length c4] (by omega)).trans HND.out)
      have HS10 := Lib.hid (snap_row2 (C := #[.int .u16 (m9.R 0), .int .u16 (m9.R 1), .int .u16 (m9.R 2), .int .u16 (m9.R 3), .int .u16 (m9.R 4), .int .u16 (m9.R 5), .int .u16 (m9.R 6), .int .u16 (m9.R 7), .int .u16 m9.pc, .int .u16 m9.sp, .int .u16 m9.fp, .int .u16 m9.f, .int .i64 m9.bank, .int .i64 m9.steps, .int .i64 m9.inputs, .int .i64 m9.polls, .string (ramS m9.ram), .slice p3 m9.st.length c3, .slice p4 m9.out.length c4]) (by decide) HNA.out HSA.out)
      have HB10 := Lib.hid (setRow_below (A := w9.heap.size) (C := #[.int .u16 (m9.R 0), .int .u16 (m9.R 1), .int .u16 (m9.R 2), .int .u16 (m9.R 3), .int .u16 (m9.R 4), .int .u16 (m9.R 5), .int .u16 (m9.R 6), .int .u16 (m9.R 7), .int .u16 m9.pc, .int .u16 m9.sp, .int .u16 m9.fp, .int .u16 m9.f, .int .i64 m9.bank, .int .i64 m9.steps, .int .i64 m9.inputs, .int .i64 m9.polls, .string (ramS m9.ram), .slice p3 m9.st.length c3, .slice p4 m9.out.length c4]) HBA.out HLW9.out)
      generalize World.setRow _ _ _ = W10 at *
      refine Lib.hid ?_
      go_wp2_with (refine wpList_store_row 46 _ _ rfl rfl (w9.heap.size + 1) rfl #[.int .i64 1, .int .u16 0] rfl HD10.out info46 rfl (by simp [Value.oneCell']) ?_; refine Hid.out ?_)
      have HA11 := Lib.hid ((setRow_other W10 (w9.heap.size + 1) w9.heap.size #[.int .i64 1, .int .u16 0] (by omega)).trans HA10.out)
      have HD11 := Lib.hid (setRow_heap _ _ _ #[.int .i64 1, .int .u16 0] _ _ HD10.out)
      have HS11 := Lib.hid (snap_row2 (C := #[.int .i64 1, .int .u16 0]) (by decide) HD10.out HS10.out)
      have HB11 := Lib.hid (setRow_below (A := w9.heap.size + 1) (C := #[.int .i64 1, .int .u16 0]) HB10.out (by have := HLW9.out; omega))
      generalize World.setRow _ _ _ = W11 at *
      refine Lib.hid ?_
      clear HA10 HD10 HS10 HB10 HNA HND HBA HSA
      have HE1 : Hid (∀ W, (binOp .neq 46 (.agg #[.int .i64 1, .int .u16 0]) (.agg #[.int .i64 1, .int .u16 0])).run Try.prog W = .ok (.bool false) W) := Lib.hid fun W => by rw [neq46]; rfl
      have e6 : m9.R 6 = v % 64 := by rw [← HM9.out]; exact HR9.out
      have eb : m9.bank = v % 64 := by rw [← HM9.out]; rfl
      have hvv := HV.out
      have qa : v.tmod 64 = v % 64 := Int.tmod_eq_emod_of_nonneg hvv.1
      have qb : IntKind.u16.wrap (v % 64) = v % 64 := by rw [IntKind.wrap_u16]; omega
      have qd : IntKind.i64.wrap (v % 64) = v % 64 := IntWalk.i64_in _ (by omega)
      have hg46 := guard46
      have q46 := HE1.out
      have d0 : W11.cell? ⟨w9.heap.size + 1, 0, none⟩ = some (.int .i64 1) := Lib.cell_of_heap HD11.out 0
      have d1 : W11.cell? ⟨w9.heap.size + 1, 1, none⟩ = some (.int .u16 0) := Lib.cell_of_heap HD11.out 1
      have r6 : W11.cell? ⟨w9.heap.size, 6, none⟩ = some (.int .u16 (v % 64)) := by rw [← e6]; exact Lib.cell_of_heap HA11.out 6
      have r12 : W11.cell? ⟨w9.heap.size, 12, none⟩ = some (.int .i64 (v % 64)) := by rw [← eb]; exact Lib.cell_of_heap HA11.out 12
      have r18 : W11.cell? ⟨w9.heap.size, 18, none⟩ = some (.slice p4 m9.out.length c4) := Lib.cell_of_heap HA11.out 18
      have r14 : W11.cell? ⟨w9.heap.size, 14, none⟩ = some (.int .i64 m9.inputs) := Lib.cell_of_heap HA11.out 14
      clear e6 eb hvv
      by_cases hp0 : (p8.toNat : Int) = 0
      · have ho : m9.out = [] := by rw [← HM9.out]; exact if_pos hp0
        have hi : m9.inputs = 0 := by rw [← HM9.out]; exact if_pos hp0
        rw [ho] at r18
        rw [hi] at r14
        have g1 : ((p8.toNat : Int) == 0) = true := by rw [beq_iff_eq]; exact hp0
        have g2 : p8.toNat = 0 := by omega
        clear ho hi hp0
        go_wp2_with fail
        exact bodyPost_ret (v := .bool true) (by simp [results, Try.results5, go_sem]) rfl ⟨rfl, HB11.out⟩
      · have ho : m9.out = (List.range (n + 1)).map fun j => ((p8.toNat : Int), inW (tin.take 10) (p8.toNat : Int) v j) := by rw [← HM9.out]; exact if_neg hp0
        have hi : m9.inputs = ((min (n + 1) (tin.take 10).length : Nat) : Int) := by rw [← HM9.out]; exact if_neg hp0
        have hol : m9.out.length = n + 1 := by rw [ho, List.length_map, List.length_range]
        have hi2 : m9.inputs = (n : Int) := by rw [hi, HN.out]; omega
        have HOUT := Lib.hid ho
        have HOL := Lib.hid hol
        rw [hol] at r18
        rw [hi2] at r14
        have g1 : ((p8.toNat : Int) == 0) = false := by rw [beq_eq_false_iff_ne]; exact hp0
        have g2 : ¬ p8.toNat = 0 := by omega
        have HP0 := Lib.hid hp0
        have x1 : IntKind.i64.wrap ((n : Int) + 1) = (n : Int) + 1 := IntWalk.i64_in _ (by have := HN10.out; omega)
        have x2 : ((n + 1 : Nat) : Int) = (n : Int) + 1 := by omega
        clear ho hi hol hi2 hp0
        have KR : Hid (∀ W, Below W11.heap.size W11 W → W.cell? ⟨w9.heap.size, 18, none⟩ = some (.slice p4 (n + 1) c4)) := Lib.hid fun W hW => (hW.cell (p := ⟨w9.heap.size, 18, none⟩) (Array.getElem?_eq_some_iff.1 HA11.out).1).trans r18
        obtain ⟨g4, hp4, hg4, hcell4⟩ := (own_src HS11.out.out).resolve_left (by rw [HOL.out]; omega)
        subst hp4
        have HC4 : Hid (∀ W, Below W11.heap.size W11 W → ∀ j, j < n + 1 → W.cell? ⟨g4, j * 2, none⟩ = some (.int .u16 (p8.toNat : Int)) ∧ W.cell? ⟨g4, j * 2 + 1, none⟩ = some (.int .u16 (inW (tin.take 10) (p8.toNat : Int) v j))) := Lib.hid fun W hW j hj => by
          have hget : m9.out[j]? = some ((p8.toNat : Int), inW (tin.take 10) (p8.toNat : Int) v j) := by rw [HOUT.out, List.getElem?_map, List.getElem?_range hj]; rfl
          obtain ⟨h1, h2⟩ := outC_at _ _ _ _ hget
          exact ⟨(hW.cell (p := ⟨g4, j * 2, none⟩) hg4).trans (hcell4 _ _ h1), (hW.cell (p := ⟨g4, j * 2 + 1, none⟩) hg4).trans (hcell4 _ _ h2)⟩
        clear hcell4
        have hpw : IntKind.u16.wrap (p8.toNat : Int) = (p8.toNat : Int) := by rw [IntKind.wrap_u16]; have := p8.toNat_lt; omega
        have HB11w := Lib.hid HB11.out
        go_wp2_with fail
        clear d0 d1 r6 r12 r18 r14 g1 g2 x1 x2 qa qb qd q46
        go_loopw [15] (fun i_ wr => ∃ k : Nat, k ≤ n + 1 ∧ i_ = .int .i64 (k : Int) ∧ Below W11.heap.size W11 wr) (fun i_ _ => n + 1 - (intOf i_).toNat)
        case atStart => exact ⟨0, Nat.zero_le _, rfl, Below.refl _ _⟩
        case round =>
          obtain ⟨k, hk, rfl, hb⟩ := hrel
          have HBK := Lib.hid hb
          clear hb
          by_cases hkn : k ≤ n
          · have b0 : decide ((k : Int) ≤ (n : Int)) = true := decide_eq_true (by omega)
            have b1 : decide (k ≤ n) = true := decide_eq_true hkn
            have x2 : IntKind.i64.wrap ((k : Int) + 1) = (k : Int) + 1 := IntWalk.i64_in _ (by have := HN10.out; omega)
            have i1 : (0 : Int) ≤ (k : Int) := by omega
            have i2 : (k : Int) < (n : Int) + 1 := by omega
            have i4 : k < n + 1 := by omega
            have HKN := Lib.hid hkn
            clear hkn hk
            have HBA1 := Lib.hid (below_next HBK.out (below1 wr (Obj.cells #[.int .u16 (p8.toNat : Int), .int .u16 0] 54)))
            have HAL1 : Hid ((wr.alloc (Obj.cells #[.int .u16 (p8.toNat : Int), .int .u16 0] 54)).heap[wr.heap.size]? = some (.cells #[.int .u16 (p8.toNat : Int), .int .u16 0] 54 (0, 0))) := Lib.hid (alloc_at wr _)
            by_cases hlt : k < n
            · have b2 : decide ((k : Int) < (n : Int)) = true := decide_eq_true (by omega)
              have b3 : decide (k < n) = true := decide_eq_true hlt
              obtain ⟨x, hx⟩ := at_some tin k (by have := HN.out; rw [List.length_take] at this; omega)
              have hin0 : inW (tin.take 10) (p8.toNat : Int) v k = x := by
                unfold inW
                rw [if_neg HP0.out, List.getElem?_take, if_pos (by have := HN10.out; omega), hx]
                rfl
              have HIN0 := Lib.hid hin0
              obtain ⟨Bi, offi, ei, hBi, hci⟩ := HIN.out k x hx
              subst ei
              have HCX := Lib.hid (((below_next HB11.out HBA1.out).cell (p := ⟨Bi, offi + k, none⟩) hBi).trans hci)
              clear hin0 hlt hx hci hBi
              go_upto_region 24 with (fail)
              generalize wr.alloc _ = U0 at *
              have cx := HCX.out
              have y1 : U0.cell? ⟨wr.heap.size, 1, none⟩ = some (.int .u16 0) := Lib.cell_of_heap HAL1.out 1
              have z1 : U0.frozen? ⟨wr.heap.size, 1, none⟩ = false := by unfold World.frozen?; rw [HAL1.out]; simp
              have i5 : (k : Int) < (n : Int) := of_decide_eq_true b2
              go_upto_region 25 with (fail)
              have HAL2 : Hid ((U0.setCell ⟨wr.heap.size, 1, none⟩ (.int .u16 x)).heap[wr.heap.size]? = some (.cells #[.int .u16 (p8.toNat : Int), .int .u16 x] 54 (0, 0))) := Lib.hid (by
                have h9 := setCell_blk (k := 1) (v := .int .u16 x) HAL1.out
                simp only [lA, lZ, lS] at h9
                exact h9)
              have HBA2 := Lib.hid (HBA1.out.setCell (p := ⟨wr.heap.size, 1, none⟩) HBK.out.size (.int .u16 x))
              clear cx y1 z1 i5
              generalize U0.setCell _ _ = U at *
              have HU : Hid (∀ W, Below U.heap.size U W → W.cell? ⟨w9.heap.size, 18, none⟩ = some (.slice (some ⟨g4, 0, none⟩) (n + 1) c4) ∧ W.cell? ⟨g4, k * 2, none⟩ = some (.int .u16 (p8.toNat : Int)) ∧ W.cell? ⟨g4, k * 2 + 1, none⟩ = some (.int .u16 x) ∧ W.cell? ⟨wr.heap.size, 0, none⟩ = some (.int .u16 (p8.toNat : Int)) ∧ W.cell? ⟨wr.heap.size, 1, none⟩ = some (.int .u16 x)) := Lib.hid fun W hW => by
                have hB := below_next HBA2.out hW
                have h4 := HC4.out W hB k (by have := HKN.out; omega)
                rw [HIN0.out] at h4
                have hh := (hW.block _ (Array.getElem?_eq_some_iff.1 HAL2.out).1).trans HAL2.out
                exact ⟨KR.out W hB, h4.1, h4.2, Lib.cell_of_heap hh 0, Lib.cell_of_heap hh 1⟩
              have HQ : Hid (∀ W, (binOp .neq 54 (.agg #[.int .u16 (p8.toNat : Int), .int .u16 x]) (.agg #[.int .u16 (p8.toNat : Int), .int .u16 x])).run Try.prog W = .ok (.bool false) W) := Lib.hid fun W => by rw [neq54]; simp
              refine wp_region_flow (S := fun W => Below U.heap.size U W) (by kernel_rfl) (by kernel_rfl) (Below.drew (Below.refl _ _)) ?_
              refine Flow.step ?_ ?_ ?_
              rotate_left
              · intro V2 K hS hK
                go_simp
                exact hK _ hS
              simp only [Act.put, lA, lZ, lS]
              refine Flow.step ?_ ?_ ?_
              rotate_left
              · intro V2 K hS hK
                obtain ⟨c18, o0, o1, u0, u1⟩ := HU.out _ hS
                go_simp
                exact hK _ hS
              simp only [Act.put, lA, lZ, lS]
              refine Flow.step ?_ ?_ ?_
              rotate_left
              · intro V2 K hS hK
                go_simp
                exact hK _ hS
              simp only [Act.put, lA, lZ, lS]
              refine Flow.step ?_ ?_ ?_
              rotate_left
              · intro V2 K hS hK
                go_simp
                exact hK _ hS
              simp only [Act.put, lA, lZ, lS]
              refine Flow.step ?_ ?_ ?_
              rotate_left
              · intro V2 K hS hK
                obtain ⟨c18, o0, o1, u0, u1⟩ := HU.out _ hS
                go_simp
                exact hK _ hS
              simp only [Act.put, lA, lZ, lS]
              refine Flow.step ?_ ?_ ?_
              rotate_left
              · intro V2 K hS hK
                obtain ⟨c18, o0, o1, u0, u1⟩ := HU.out _ hS
                go_simp
                exact hK _ hS
              simp only [Act.put, lA, lZ, lS]
              refine Flow.step ?_ ?_ ?_
              rotate_left
              · intro V2 K hS hK
                obtain hq := HQ.out
                obtain hg := guard54
                go_simp
                exact hK _ hS
              simp only [Act.put, lA, lZ, lS]
              refine Flow.done ?_
              intro V2 hS
              have HB3 := Lib.hid (below_next HBA2.out hS)
              have HKL : Hid (k < n) := Lib.hid (of_decide_eq_true b3)
              clear hS
              go_wp2_with fail
              go_roundw
              case rel => exact ⟨k + 1, by have := HKN.out; omega, by go_num, HB3.out⟩
              case measure => have := HKN.out; simp only [intOf]; omega
            · have b2 : decide ((k : Int) < (n : Int)) = false := decide_eq_false (by omega)
              have b3 : decide (k < n) = false := decide_eq_false hlt
              have hin0 : inW (tin.take 10) (p8.toNat : Int) v k = 0 := by
                unfold inW
                rw [if_neg HP0.out, List.getElem?_eq_none (by have := HN.out; omega)]
                rfl
              have HIN0 := Lib.hid hin0
              clear hin0 hlt
              go_upto_region 25 with (fail)
              generalize wr.alloc _ = U at *
              have HU : Hid (∀ W, Below U.heap.size U W → W.cell? ⟨w9.heap.size, 18, none⟩ = some (.slice (some ⟨g4, 0, none⟩) (n + 1) c4) ∧ W.cell? ⟨g4, k * 2, none⟩ = some (.int .u16 (p8.toNat : Int)) ∧ W.cell? ⟨g4, k * 2 + 1, none⟩ = some (.int .u16 0) ∧ W.cell? ⟨wr.heap.size, 0, none⟩ = some (.int .u16 (p8.toNat : Int)) ∧ W.cell? ⟨wr.heap.size, 1, none⟩ = some (.int .u16 0)) := Lib.hid fun W hW => by
                have hB := below_next HBA1.out hW
                have h4 := HC4.out W hB k (by have := HKN.out; omega)
                rw [HIN0.out] at h4
                have hh := (hW.block _ (Array.getElem?_eq_some_iff.1 HAL1.out).1).trans HAL1.out
                exact ⟨KR.out W hB, h4.1, h4.2, Lib.cell_of_heap hh 0, Lib.cell_of_heap hh 1⟩
              have HQ : Hid (∀ W, (binOp .neq 54 (.agg #[.int .u16 (p8.toNat : Int), .int .u16 0]) (.agg #[.int .u16 (p8.toNat : Int), .int .u16 0])).run Try.prog W = .ok (.bool false) W) := Lib.hid fun W => by rw [neq54]; simp
              refine wp_region_flow (S := fun W => Below U.heap.size U W) (by kernel_rfl) (by kernel_rfl) (Below.drew (Below.refl _ _)) ?_
              refine Flow.step ?_ ?_ ?_
              rotate_left
              · intro V2 K hS hK
                go_simp
                exact hK _ hS
              simp only [Act.put, lA, lZ, lS]
              refine Flow.step ?_ ?_ ?_
              rotate_left
              · intro V2 K hS hK
                obtain ⟨c18, o0, o1, u0, u1⟩ := HU.out _ hS
                go_simp
                exact hK _ hS
              simp only [Act.put, lA, lZ, lS]
              refine Flow.step ?_ ?_ ?_
              rotate_left
              · intro V2 K hS hK
                go_simp
                exact hK _ hS
              simp only [Act.put, lA, lZ, lS]
              refine Flow.step ?_ ?_ ?_
              rotate_left
              · intro V2 K hS hK
                go_simp
                exact hK _ hS
              simp only [Act.put, lA, lZ, lS]
              refine Flow.step ?_ ?_ ?_
              rotate_left
              · intro V2 K hS hK
                obtain ⟨c18, o0, o1, u0, u1⟩ := HU.out _ hS
                go_simp
                exact hK _ hS
              simp only [Act.put, lA, lZ, lS]
              refine Flow.step ?_ ?_ ?_
              rotate_left
              · intro V2 K hS hK
                obtain ⟨c18, o0, o1, u0, u1⟩ := HU.out _ hS
                go_simp
                exact hK _ hS
              simp only [Act.put, lA, lZ, lS]
              refine Flow.step ?_ ?_ ?_
              rotate_left
              · intro V2 K hS hK
                obtain hq := HQ.out
                obtain hg := guard54
                go_simp
                exact hK _ hS
              simp only [Act.put, lA, lZ, lS]
              refine Flow.done ?_
              intro V2 hS
              have HB3 := Lib.hid (below_next HBA1.out hS)
              clear hS
              go_wp2_with fail
              go_roundw
              case rel => exact ⟨k + 1, by have := HKN.out; omega, by go_num, HB3.out⟩
              case measure => have := HKN.out; simp only [intOf]; omega
          · obtain rfl : k = n + 1 := by omega
            have b0 : decide (((n + 1 : Nat) : Int) ≤ (n : Int)) = false := decide_eq_false (by omega)
            have b1 : decide (n + 1 ≤ n) = false := decide_eq_false (by omega)
            have HBZ := Lib.hid (below_next HB11w.out HBK.out)
            clear hk hkn
            go_wp2_with fail
            exact bodyPost_ret (v := .bool true) (by simp [results, Try.results5, go_sem]) rfl ⟨rfl, HBZ.out⟩
theorem cpuPorts_walk (p : Option Addr) (cap : Nat) (tin : List Int) (x v : Int) (w : World) (hlen : tin.length ≤ 9223372036854775807) (hcap : tin.length ≤ cap) (hin : RowLow w.heap.size w p .u16 tin) (hok : ∀ y ∈ tin, OkU16 y) (x0 : 0 ≤ x) (x1 : x < 256) (v0 : 0 ≤ v) (v1 : v < 65536) :
    Calls Try.prog 5 #[.slice p tin.length cap, .int .u8 x, .int .u16 v] w fun e w' => e = .returned (.bool true) ∧ Below w.heap.size w w' := by
  obtain ⟨p8, rfl⟩ : ∃ p8 : UInt8, (p8.toNat : Int) = x := ⟨UInt8.ofNat x.toNat, byte_one x x0 x1⟩
  exact ports_pick p cap tin p8 v w hin hcap hlen hok ⟨v0, v1⟩
end Go.Proofs.Ytieaicdihingkaa
