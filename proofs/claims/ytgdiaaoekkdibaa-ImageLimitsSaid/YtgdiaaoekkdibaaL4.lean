/- ImageLimits: the walk of the law. -/
import Derived.Test.YtgdiaaoekkdibaaE3
import Derived.Test.YtgdiaaoekkdibaaE1
import Derived.Test.YtgdiaaoekkdibaaI7
import Derived.Test.YtgdiaaoekkdibaaA0
import Derived.Deep.RegionHeld3
namespace Go.Proofs.Ytgdiaaoekkdibaa
set_option linter.unusedVariables false
set_option linter.unusedSimpArgs false
open Go.RowKit
def zL : List UInt8 := List.replicate 4096 0
def zS : ByteArray := bytesOf zL
theorem zL_len : zL.length = 4096 := List.length_replicate
theorem zS_size : zS.size = 4096 := (bytesOf_size zL).trans zL_len
theorem rep_at (n j : Nat) (h : j < n) : (List.replicate n (0 : UInt8))[j]? = some 0 := by simp [h]
theorem zL_at (j : Nat) (h : j < 4096) : zL[j]? = some 0 := rep_at 4096 j h
theorem z_conv (W : World) : (convert 36 9 (.slice (some ⟨W.heap.size, 0, none⟩) 4096 4096)).run Try.prog (W.alloc (.cells zrow 5)) = .ok (.string zS) (W.alloc (.cells zrow 5)) := by
  have h := run_convert_bytes_back (P := Try.prog) (W.alloc (.cells zrow 5)) 36 9 5 ⟨W.heap.size, 0, none⟩ 4096 zL Try.underlying36 Try.underlying5 Try.underlying9 (by
    intro j hj
    have hl := zL_len
    have hj' : j < 4096 := by omega
    have ea : (⟨W.heap.size, 0, none⟩ : Addr).add j = ⟨W.heap.size, j, none⟩ := by simp [Addr.add]; exact fun h => h.symm
    have e1 := zL_at j hj'
    rw [List.getElem?_eq_getElem hj] at e1
    rw [Option.some.inj e1, ea, Lib.cell_of_heap (alloc_at W (.cells zrow 5))]
    exact zrow_at j hj')
  rw [zL_len] at h
  exact h
def limO (j : Nat) : ObjI := ⟨-1, 16384 + 2 * (j : Int), 1⟩
def limI (a b c : Nat) : Img := ⟨List.replicate a zS, 0, 0, (List.range b).map limO, List.replicate c ⟨0, 9⟩⟩
theorem limI_1 (a b c : Nat) : { limI a b c with banks := (limI a b c).banks ++ [zS] } = limI (a + 1) b c := by unfold limI; simp [List.replicate_succ']
theorem limI_2 (a b c : Nat) : { limI a b c with data := (limI a b c).data ++ [limO b] } = limI a (b + 1) c := by unfold limI; simp [List.range_succ]
theorem limI_3 (a b c : Nat) : { limI a b c with relocs := (limI a b c).relocs ++ [⟨0, 9⟩] } = limI a b (c + 1) := by unfold limI; simp [List.replicate_succ']
theorem limI_l1 (a b c : Nat) : (limI a b c).banks.length = a := List.length_replicate
theorem limI_l2 (a b c : Nat) : (limI a b c).data.length = b := by unfold limI; simp
theorem limI_l3 (a b c : Nat) : (limI a b c).relocs.length = c := List.length_replicate
theorem limI_ok (a b c : Nat) (hb : b < 20000) : (∀ s ∈ (limI a b c).banks, s.size ≤ maxLen) ∧ (∀ o ∈ (limI a b c).data, o.ok) ∧ (∀ o ∈ (limI a b c).relocs, o.ok) := by
  refine ⟨?_, ?_, ?_⟩
  · intro s hs
    obtain rfl := List.eq_of_mem_replicate hs
    rw [zS_size]; decide
  · intro o ho
    obtain ⟨j, hj, rfl⟩ := List.mem_map.1 ho
    have := List.mem_range.1 hj
    unfold limO ObjI.ok OkI64 OkU16
    dsimp only
    omega
  · intro s hs
    obtain rfl := List.eq_of_mem_replicate hs
    exact ⟨⟨by decide, by decide⟩, ⟨by decide, by decide⟩⟩
theorem lim_img {B N : Nat} {w0 w : World} {a b c : Nat} {v1 v2 v3 : Value} (h : Mk B N w0 w (limI a b c) v1 v2 v3) (ha : a < 100) (hb : b < 20000) (hc : c < 30000) :
    ∃ (p1 : Option Addr) (c1 : Nat) (p2 : Option Addr) (c2 : Nat) (p3 : Option Addr) (c3 : Nat), v1 = .slice p1 (limI a b c).banks.length c1 ∧ v2 = .slice p2 (limI a b c).data.length c2 ∧ v3 = .slice p3 (limI a b c).relocs.length c3 ∧ ImgAt w p1 p2 p3 (limI a b c) := by
  obtain ⟨k1, k2, k3⟩ := limI_ok a b c hb
  exact h.img k1 k2 k3 (show OkU16 (0 : Int) from ⟨by decide, by decide⟩) (show OkU16 (0 : Int) from ⟨by decide, by decide⟩) (by rw [limI_l1]; unfold maxLen; omega) (by rw [limI_l2]; unfold maxLen; omega) (by rw [limI_l3]; unfold maxLen; omega)
theorem lim_start (w w1 : World) (h : Below w.heap.size w w1) : Mk w.heap.size w1.heap.size w ((w1.alloc (Obj.cells #[Value.slice none 0 0, Value.int IntKind.u16 0, Value.int IntKind.u16 0, Value.slice none 0 0, Value.slice none 0 0] 30)).alloc (Obj.cells zrow 5)) (limI 0 0 0) (.slice none 0 0) (.slice none 0 0) (.slice none 0 0) := by
  have hs := h.size
  refine ⟨?_, ?_, ?_, ?_, ?_, ?_, ?_, ?_, World.ownsRow_nil _ _ _ _, World.ownsRow_nil _ _ _ _, World.ownsRow_nil _ _ _ _, hs, ?_, below_alloc (below_alloc h _) _⟩
  · simp [go_sem]
  · simp [go_sem]; rfl
  · simp [go_sem]; rfl
  · simp [go_sem]
  · simp [go_sem]
  · simp [go_sem]
  · simp [go_sem]
  · simp [go_sem]
  · simp; omega
theorem last8 {A1 A2 A3 A4 A5 A6 : Prop} (h : A1 ∧ A2 ∧ A3 ∧ A4 ∧ A5 ∧ A6) : A6 := h.2.2.2.2.2
set_option maxRecDepth 8000 in
set_option maxHeartbeats 1600000 in
theorem imageLimits_walk (b o r : Int) (w : World) (b0 : -9223372036854775808 ≤ b) (b1 : b ≤ 9223372036854775807) (o0 : -9223372036854775808 ≤ o) (o1 : o ≤ 9223372036854775807) (r0 : -9223372036854775808 ≤ r) (r1 : r ≤ 9223372036854775807) :
    Calls Try.prog 4 #[.int .i64 b, .int .i64 o, .int .i64 r] w fun e w' => e = .returned (.bool true) ∧ Below w.heap.size w w' := by
  have hmk := make_run
  have hb := fun w : World => mod_any b 67 w ⟨b0, b1⟩ (by decide) (by decide)
  have ho := fun w : World => mod_any o 6 w ⟨o0, o1⟩ (by decide) (by decide)
  have hr := fun w : World => mod_any r 5 w ⟨r0, r1⟩ (by decide) (by decide)
  have m0 : 0 ≤ b % 67 := by omega
  have m1 : b % 67 < 67 := by omega
  have n0 : 0 ≤ o % 6 := by omega
  have n1 : o % 6 < 6 := by omega
  have q0 : 0 ≤ r % 5 := by omega
  have q1 : r % 5 < 5 := by omega
  obtain ⟨M, hM⟩ : ∃ M : Nat, b % 67 = (M : Int) := ⟨(b % 67).toNat, by omega⟩
  obtain ⟨O, hO⟩ : ∃ O : Nat, o % 6 = (O : Int) := ⟨(o % 6).toNat, by omega⟩
  obtain ⟨R, hR⟩ : ∃ R : Nat, r % 5 = (R : Int) := ⟨(r % 5).toNat, by omega⟩
  rw [hM] at hb m0 m1
  rw [hO] at ho n0 n1
  rw [hR] at hr q0 q1
  have HBm := Lib.hid hb
  have HOm := Lib.hid ho
  have HRm := Lib.hid hr
  clear hb ho hr hM hO hR
  obtain ⟨i9, hi9, hz9, hs9, hb9⟩ := info_parts infoStr
  obtain ⟨i39, hi39, hz39, hs39, hb39⟩ := info_parts infoObj
  obtain ⟨i41, hi41, hz41, hs41, hb41⟩ := info_parts infoRel
  go_enter Try.func4, Try.ntmps4
  go_wp2_with fail
  refine (sanity_any _).mono ?_
  rintro e w1 ⟨rfl, h1⟩
  have hcv := z_conv (w1.alloc (Obj.cells #[Value.slice none 0 0, Value.int IntKind.u16 0, Value.int IntKind.u16 0, Value.slice none 0 0, Value.slice none 0 0] 30))
  rw [show (w1.alloc (Obj.cells #[Value.slice none 0 0, Value.int IntKind.u16 0, Value.int IntKind.u16 0, Value.slice none 0 0, Value.slice none 0 0] 30)).heap.size = w1.heap.size + 1 from by simp] at hcv
  go_wp2_with fail
  clear hcv hmk
  have HM := Lib.hid (lim_start w w1 h1)
  clear h1
  generalize (w1.alloc (Obj.cells #[Value.slice none 0 0, Value.int IntKind.u16 0, Value.int IntKind.u16 0, Value.slice none 0 0, Value.slice none 0 0] 30)).alloc (Obj.cells zrow 5) = W2 at *
  generalize w1.heap.size = N at *
  generalize hzz : zS = Z at *
  go_loopw [10] (fun i wr => ∃ (k : Nat) (v1 : Value), k ≤ M ∧ i = .int .i64 k ∧ Mk w.heap.size N w wr (limI k 0 0) v1 (.slice none 0 0) (.slice none 0 0)) (fun i _ => M - (intOf i).toNat)
  case atStart => exact ⟨0, _, Nat.zero_le _, rfl, HM.out⟩
  case round =>
    obtain ⟨k, v1, hk, rfl, hm⟩ := hrel
    clear HM
    have HM := Lib.hid hm
    obtain ⟨i0, i1, i2, i3, i4, f0, f3, f4, _, _, _, _, _, _⟩ := hm
    by_cases hlt : k < M
    · go_wp2_with fail
      refine (HBm.out _).mono ?_
      rintro e w' ⟨rfl, rfl⟩
      have hA := HM.out.next (below1 wr (Obj.cells #[Value.string Z] 9))
      have HA := Lib.hid hA
      clear hA
      go_wp2_with (at_builtin; refine wpList_append_own _ rfl (.tmp 26) (.tmp 28) 25 rfl (N + 1) 9 i9 (.string ByteArray.empty) 1 16 Try.underlying25 hi9 hz9 hs9 hb9 rfl (by decide) v1 _ _ rfl HA.out.o1 ⟨wr.heap.size, 0, none⟩ 1 1 [.string Z] rfl rfl (news_str Z) (one_str Z) (by rw [limI_l1]; unfold maxLen; omega) (by rw [limI_l1]; omega) (by have := HA.out.hw; omega) ?_)
      intro v' w3 hown hg _
      obtain ⟨p', c', rfl, _⟩ := own_slice hown
      have hC := HA.out.keep hg (fun j hj => (HA.out.o1.lt j hj).1)
      have HP := Lib.hid (HA.out.push1 Z hown hg)
      obtain ⟨i0, i1, i2, i3, i4, f0, f3, f4⟩ := hC
      clear hown hg HA
      go_wp2_with fail
      go_roundw
      case rel =>
        refine ⟨k + 1, .slice p' ((limI k 0 0).banks.length + 1) c', by omega, by go_num, ?_⟩
        have := HP.out
        rw [← hzz] at this
        rwa [limI_1] at this
      case measure => simp [intOf]; omega
    · obtain rfl : M = k := by omega
      go_wp2_with fail
      refine (HBm.out _).mono ?_
      rintro e w' ⟨rfl, rfl⟩
      go_wp2_with fail
      generalize v1 = V1 at *
      go_loopw [11] (fun i wr => ∃ (k : Nat) (v2 : Value), k ≤ 509 + O ∧ i = .int .i64 k ∧ Mk w.heap.size N w wr (limI M k 0) V1 v2 (.slice none 0 0)) (fun i _ => 509 + O - (intOf i).toNat)
      case atStart => exact ⟨0, _, Nat.zero_le _, rfl, HM.out⟩
      case round =>
        obtain ⟨k, v2, hk, rfl, hm⟩ := hrel
        clear HM
        have HM := Lib.hid hm
        obtain ⟨i0, i1, i2, i3, i4, f0, f3, f4, _, _, _, _, _, _⟩ := hm
        by_cases hlt : k < 509 + O
        · have hlt' : (k : Int) < 509 + (O : Int) := by omega
          have hw : IntKind.u16.wrap (16384 + 2 * (k : Int)) = 16384 + 2 * (k : Int) := wrap_in _ (by omega) (by omega)
          go_wp2_with fail
          refine (HOm.out _).mono ?_
          rintro e w' ⟨rfl, rfl⟩
          have hA := HM.out.next (below1 wr (Obj.cells #[.int .i64 (-1), .int .u16 (16384 + 2 * (k : Int)), .int .u16 1] 39))
          have HA := Lib.hid hA
          clear hA
          go_wp2_with (at_builtin; refine wpList_append_own _ rfl (.tmp 39) (.tmp 45) 27 rfl (N + 1) 39 i39 (.agg #[.int .i64 0, .int .u16 0, .int .u16 0]) 3 16 Try.underlying27 hi39 hz39 hs39 hb39 rfl (by decide) v2 _ _ rfl HA.out.o2 ⟨wr.heap.size, 0, none⟩ 1 1 (limO k).cells rfl rfl (news_obj (limO k)) (one_obj (limO k)) (by rw [limI_l2]; unfold maxLen; omega) (by rw [limI_l2]; omega) (by have := HA.out.hw; omega) ?_)
          intro v' w3 hown hg _
          obtain ⟨p', c', rfl, _⟩ := own_slice hown
          have hC := HA.out.keep hg (fun j hj => (HA.out.o2.lt j hj).1)
          have HP := Lib.hid (HA.out.push2 (limO k) hown hg)
          obtain ⟨i0, i1, i2, i3, i4, f0, f3, f4⟩ := hC
          clear hown hg HA
          go_wp2_with fail
          go_roundw
          case rel =>
            refine ⟨k + 1, .slice p' ((limI M k 0).data.length + 1) c', by omega, by go_num, ?_⟩
            have := HP.out
            rwa [limI_2] at this
          case measure => simp [intOf]; omega
        · obtain rfl : k = 509 + O := by omega
          have hge : decide (((509 + O : Nat) : Int) < 509 + (O : Int)) = false := decide_eq_false (by omega)
          go_wp2_with fail
          refine (HOm.out _).mono ?_
          rintro e w' ⟨rfl, rfl⟩
          clear i0 i1 i2 i3 i4 f0 f3 f4
          obtain ⟨p1, c1, p2, c2, p3, c3, rfl, rfl, hn3, hI⟩ := lim_img HM.out (by omega) (by omega) (by omega)
          have HI := Lib.hid hI
          have hm := HM.out
          obtain ⟨i0, i1, i2, i3, i4, f0, f3, f4, _, _, _, _, _, _⟩ := hm
          clear hI hge
          rw [hn3] at HM i4
          go_wp2_with fail
          refine (rcheck_any p1 c1 p2 c2 none 0 (limI M (509 + O) 0) _ HI.out).mono ?_
          rintro e w4 ⟨rfl, h4⟩
          have HI4 := Lib.hid (HI.out.kept h4)
          have hm := HM.out.next h4
          clear HM i0 i1 i2 i3 i4 f0 f3 f4
          have HM := Lib.hid hm
          obtain ⟨i0, i1, i2, i3, i4, f0, f3, f4, _, _, _, _, _, _⟩ := hm
          go_wp2_with fail
          refine (check_any p1 c1 p2 c2 none 0 (limI M (509 + O) 0) _ HI4.out).mono ?_
          rintro e w5 ⟨rfl, h5⟩
          have hm := HM.out.next h5
          clear HM i0 i1 i2 i3 i4 f0 f3 f4 HI HI4 h4 h5
          have HM := Lib.hid hm
          have hX : (checkI (limI M (509 + O) 0) == checkI (limI M (509 + O) 0)) = true := by simp
          clear hm
          go_wp2_with fail
          have hz0 : (limI M (509 + O) 0).relocs.length = 0 := limI_l3 _ _ _
          rw [hz0] at HM
          clear hX i0 i1 i2 i3 i4 f0 f3 f4 hz0
          generalize Value.slice p1 (limI M (509 + O) 0).banks.length c1 = V1 at *
          generalize Value.slice p2 (limI M (509 + O) 0).data.length c2 = V2 at *
          go_loopw [14] (fun i wr => ∃ (k : Nat) (v3 : Value), k ≤ 19998 + R ∧ i = .int .i64 k ∧ Mk w.heap.size N w wr (limI M (509 + O) k) V1 V2 v3) (fun i _ => 19998 + R - (intOf i).toNat)
          case atStart => exact ⟨0, _, Nat.zero_le _, rfl, HM.out⟩
          case round =>
            obtain ⟨k, v3, hk, rfl, hm⟩ := hrel
            clear HM
            have HM := Lib.hid hm
            obtain ⟨i0, i1, i2, i3, i4, f0, f3, f4, _, _, _, _, _, _⟩ := hm
            by_cases hlt : k < 19998 + R
            · have hlt' : (k : Int) < 19998 + (R : Int) := by omega
              go_wp2_with fail
              refine (HRm.out _).mono ?_
              rintro e w' ⟨rfl, rfl⟩
              have hA := HM.out.next (below1 wr (Obj.cells #[.int .i64 0, .int .u16 9] 41))
              have HA := Lib.hid hA
              clear hA
              go_wp2_with (at_builtin; refine wpList_append_own _ rfl (.tmp 62) (.tmp 64) 28 rfl (N + 1) 41 i41 (.agg #[.int .i64 0, .int .u16 0]) 2 16 Try.underlying28 hi41 hz41 hs41 hb41 rfl (by decide) v3 _ _ rfl HA.out.o3 ⟨wr.heap.size, 0, none⟩ 1 1 (RelI.cells ⟨0, 9⟩) rfl rfl (news_rel ⟨0, 9⟩) (one_rel ⟨0, 9⟩) (by rw [limI_l3]; unfold maxLen; omega) (by rw [limI_l3]; omega) (by have := HA.out.hw; omega) ?_)
              intro v' w3 hown hg _
              obtain ⟨p', c', rfl, _⟩ := own_slice hown
              have hC := HA.out.keep hg (fun j hj => (HA.out.o3.lt j hj).1)
              have HP := Lib.hid (HA.out.push3 ⟨0, 9⟩ hown hg)
              obtain ⟨i0, i1, i2, i3, i4, f0, f3, f4⟩ := hC
              clear hown hg HA
              go_wp2_with fail
              go_roundw
              case rel =>
                refine ⟨k + 1, .slice p' ((limI M (509 + O) k).relocs.length + 1) c', by omega, by go_num, ?_⟩
                have := HP.out
                rwa [limI_3] at this
              case measure => simp [intOf]; omega
            · obtain rfl : k = 19998 + R := by omega
              have hge : decide (((19998 + R : Nat) : Int) < 19998 + (R : Int)) = false := decide_eq_false (by omega)
              go_wp2_with fail
              refine (HRm.out _).mono ?_
              rintro e w' ⟨rfl, rfl⟩
              clear i0 i1 i2 i3 i4 f0 f3 f4
              obtain ⟨p1, c1, p2, c2, p3, c3, rfl, rfl, rfl, hI⟩ := lim_img HM.out (by omega) (by omega) (by omega)
              have HI := Lib.hid hI
              have hm := HM.out
              obtain ⟨i0, i1, i2, i3, i4, f0, f3, f4, _, _, _, _, hNw, hbw⟩ := hm
              clear hI hge f0 f3 f4
              have HA : Hid (∀ w' : World, Below wr.heap.size wr w' → w'.cell? ⟨N, 0, none⟩ = some (.slice p1 (limI M (509 + O) (19998 + R)).banks.length c1) ∧ w'.cell? ⟨N, 1, none⟩ = some (.int .u16 (limI M (509 + O) (19998 + R)).entry) ∧ w'.cell? ⟨N, 2, none⟩ = some (.int .u16 (limI M (509 + O) (19998 + R)).vector) ∧ w'.cell? ⟨N, 3, none⟩ = some (.slice p2 (limI M (509 + O) (19998 + R)).data.length c2) ∧ w'.cell? ⟨N, 4, none⟩ = some (.slice p3 (limI M (509 + O) (19998 + R)).relocs.length c3) ∧ Below wr.heap.size wr w') :=
                fun w' hb => ⟨(hb.cell hNw).trans i0, (hb.cell hNw).trans i1, (hb.cell hNw).trans i2, (hb.cell hNw).trans i3, (hb.cell hNw).trans i4, hb⟩
              have HBw := Lib.hid hbw
              clear hbw
              have hX : (checkI (limI M (509 + O) (19998 + R)) == checkI (limI M (509 + O) (19998 + R))) = true := by simp
              go_wp2_with fail
              go_region_held3 (fun w' => w'.cell? ⟨N, 0, none⟩ = some (.slice p1 (limI M (509 + O) (19998 + R)).banks.length c1) ∧ w'.cell? ⟨N, 1, none⟩ = some (.int .u16 (limI M (509 + O) (19998 + R)).entry) ∧ w'.cell? ⟨N, 2, none⟩ = some (.int .u16 (limI M (509 + O) (19998 + R)).vector) ∧ w'.cell? ⟨N, 3, none⟩ = some (.slice p2 (limI M (509 + O) (19998 + R)).data.length c2) ∧ w'.cell? ⟨N, 4, none⟩ = some (.slice p3 (limI M (509 + O) (19998 + R)).relocs.length c3) ∧ Below wr.heap.size wr w')
                (first
                  | exact HA.out _ (Below.drew (Below.refl _ _))
                  | exact HA.out _ (below_next (last8 (by assumption)) h5)
                  | assumption)
                (first
                  | (go_at_call 18; refine (check_any p1 c1 p2 c2 p3 c3 (limI M (509 + O) (19998 + R)) _ (HI.out.kept (last8 (by assumption)))).mono ?_; rintro e w5 ⟨rfl, h5⟩)
                  | (go_at_call 19; refine (rcheck_any p1 c1 p2 c2 p3 c3 (limI M (509 + O) (19998 + R)) _ (HI.out.kept (last8 (by assumption)))).mono ?_; rintro e w5 ⟨rfl, h5⟩))
              all_goals
                have hend := last8 (by assumption)
                clear HA
                go_wp2_with fail
                go_ret
                exact ⟨rfl, HBw.out.trans (hend.mono (by have := HBw.out.size; omega))⟩
end Go.Proofs.Ytgdiaaoekkdibaa
