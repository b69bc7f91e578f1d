/- Made: it gives some instruction. -/
import Derived.Test.YtieaicdihingkaaV3
namespace Go.Proofs.Ytieaicdihingkaa
set_option linter.unusedVariables false
set_option linter.unusedSimpArgs false
open Go.RowKit
theorem vinfo3 : (Try.prog.info? 3).map (fun i => (i.zero, i.size, i.bytes)) = some (some (.int .i64 0), 1, 8) := by kernel_rfl
set_option maxRecDepth 20000 in
set_option maxHeartbeats 40000000 in
theorem made_some (q0 q1 q2 q3 q4 : Int) (w : World) : Calls Try.prog 70 #[.agg #[.int .i64 q0, .int .i64 q1, .int .i64 q2, .int .i64 q3, .int .i64 q4]] w (InsPost w) := by
 obtain ⟨i3, hi3, hz3, hs3, hb3⟩ : ∃ i3, Try.prog.info? 3 = some i3 ∧ i3.zero = some (.int .i64 0) ∧ i3.size = 1 ∧ i3.bytes = 8 := by
  have := vinfo3
  cases h : Try.prog.info? 3 with
  | none => rw [h] at this; cases this
  | some x => rw [h] at this; simp at this; exact ⟨x, rfl, this⟩
 have KN := Lib.hid (And.intro hi3 (And.intro hz3 (And.intro hs3 hb3)))
 obtain ⟨K, hK, _⟩ := i64_mask q0 65535 16 (by decide) (by decide)
 have hK : bits .and .i64 q0 65535 = (K : Int) := hK
 clear hi3 hz3 hs3 hb3
 go_enter Try.func70, Try.ntmps70
 go_upto_region 1 with (fail)
 generalize e0 : (w.alloc _).alloc _ = W0
 have HB0 : Hid (Below w.heap.size w W0) := Lib.hid (e0 ▸ below_alloc (below1 w _) _)
 have HLT : Hid (w.heap.size + 1 < W0.heap.size) := Lib.hid (by rw [← e0]; simp)
 have HR0 : Hid (W0.heap[w.heap.size + 1]? = some (.cells #[.int .i64 0, .int .i64 0, .int .i64 0, .int .u16 0, .int .u16 0, .int .i64 0, .int .i64 0] 26 (0, 0))) := Lib.hid (by
  have h9 := alloc_at (w.alloc (.cells #[.int .i64 q0, .int .i64 q1, .int .i64 q2, .int .i64 q3, .int .i64 q4] 128)) (.cells #[.int .i64 0, .int .i64 0, .int .i64 0, .int .u16 0, .int .u16 0, .int .i64 0, .int .i64 0] 26)
  rw [World.size_alloc] at h9
  exact e0 ▸ h9)
 have HQ : Hid (∀ W, Below W0.heap.size W0 W → W.cell? ⟨w.heap.size, 0, none⟩ = some (.int .i64 q0) ∧ W.cell? ⟨w.heap.size, 1, none⟩ = some (.int .i64 q1) ∧ W.cell? ⟨w.heap.size, 2, none⟩ = some (.int .i64 q2) ∧ W.cell? ⟨w.heap.size, 3, none⟩ = some (.int .i64 q3) ∧ W.cell? ⟨w.heap.size, 4, none⟩ = some (.int .i64 q4)) := Lib.hid fun W hW => by
  have h8 : W0.heap[w.heap.size]? = some (.cells #[.int .i64 q0, .int .i64 q1, .int .i64 q2, .int .i64 q3, .int .i64 q4] 128 (0, 0)) := e0 ▸ blk_mid1 w _ _
  have hc := Lib.cell_of_heap (v_next hW h8)
  exact ⟨hc 0, hc 1, hc 2, hc 3, hc 4⟩
 clear e0
 go_wp2_with fail
 go_loopw [3, 4] (fun v_ i_ wr => ∃ (k : Nat) (l : List Int), i_ = .int .i64 (k : Int) ∧ k ≤ 164 ∧ l.length ≤ k ∧ (0 < k → 0 < l.length) ∧ wr.ownsRow W0.heap.size 3 1 v_ l.length (l.map (Value.int .i64)) ∧ Below W0.heap.size W0 wr) (fun _ i_ _ => 164 - (intOf i_).toNat)
 case atStart => exact ⟨0, [], rfl, Nat.zero_le _, Nat.le_refl _, fun h => absurd h (Nat.lt_irrefl 0), ⟨rfl, .inl ⟨rfl, rfl⟩⟩, Below.refl _ _⟩
 case round =>
  obtain ⟨k, l, rfl, hk, hl, hne, hown, hb⟩ := hrel
  have HK := Lib.hid (And.intro hl hne)
  have HO := Lib.hid hown
  have HB := Lib.hid hb
  have x2 : IntKind.i64.wrap ((k : Int) + 1) = (k : Int) + 1 := IntWalk.i64_in _ (by omega)
  have HF := Lib.hid fun W => rformat_any (k : Int) W
  have HF0 : Hid (k = 0 → rfmt (k : Int) ≠ 0) := Lib.hid (fun e => by subst e; decide)
  clear hown hb hl hne
  by_cases h1 : k < 164
  ·have b1 : decide ((k : Int) ≤ 163) = true := decide_eq_true (by omega)
   have HH1 := Lib.hid h1
   clear hk h1
   obtain ⟨f, hf⟩ : ∃ f, rfmt (k : Int) = f := ⟨_, rfl⟩
   rw [hf] at HF HF0
   obtain ⟨b, hb⟩ : ∃ b, (f != 0) = b := ⟨_, rfl⟩
   have HBF := Lib.hid hb
   clear hf
   go_wp2_with fail
   refine (HF.out _).mono ?_
   rintro e w2 ⟨rfl, h2⟩
   have HB2 := Lib.hid (below_next HB.out h2)
   have HO2 := Lib.hid (own_next HO.out h2)
   clear h2
   cases b
   ·go_wp2_with fail
    go_roundw
    case rel => exact ⟨k + 1, l, by go_num, HH1.out, by have := HK.out.1; omega, fun _ => by have := HK.out.2; have := HF0.out; have h9 := HBF.out; by_cases h0 : k = 0 <;> simp_all; omega, HO2.out, HB2.out⟩
    case measure => have := HH1.out; simp only [intOf]; omega
   ·go_wp2_with (at_builtin; refine Hid.out ?_)
    refine Lib.hid ?_
    refine wpList_append_own _ rfl _ _ 71 rfl W0.heap.size 3 i3 (.int .i64 0) 1 8 Try.underlying71 KN.out.1 KN.out.2.1 KN.out.2.2.1 KN.out.2.2.2 rfl (by decide) _ _ _ rfl (own_next HO2.out (below1 w2 _)) _ _ _ ([(k : Int)].map (Value.int .i64)) rfl (by simp) (news_at (Below.refl _ _) _ rfl) (fun u hu => by obtain ⟨x, _, rfl⟩ := List.mem_map.1 hu; rfl) (by have := HK.out.1; have := HH1.out; unfold maxLen; omega) (by have := HK.out.1; have := HH1.out; omega) (Nat.le_trans HB2.out.size (below1 w2 _).size) ?_
    intro v7 w7 hown7 hg7 _
    have HB7 := Lib.hid (below_grown (below_alloc HB2.out (Obj.cells #[.int .i64 (k : Int)] 3)) (below_alloc HB2.out (Obj.cells #[.int .i64 (k : Int)] 3)).size hg7 (fun q hq => ((own_next HO2.out (below1 w2 (Obj.cells #[.int .i64 (k : Int)] 3))).lt q hq).1))
    have HO7 : Hid (w7.ownsRow W0.heap.size 3 1 v7 (l ++ [(k : Int)]).length ((l ++ [(k : Int)]).map (Value.int .i64))) := Lib.hid (by rw [List.length_append, List.map_append]; exact hown7)
    clear hown7 hg7
    go_wp2_with fail
    go_roundw
    case rel => exact ⟨k + 1, l ++ [(k : Int)], by go_num, HH1.out, by have := HK.out.1; rw [List.length_append]; simp; omega, fun _ => by rw [List.length_append]; simp, HO7.out, HB7.out⟩
    case measure => have := HH1.out; simp only [intOf]; omega
  ·obtain rfl : k = 164 := by omega
   have b1 : decide (((164 : Nat) : Int) ≤ 163) = false := by decide
   obtain ⟨p, c, rfl, hcap, hp⟩ := own_slice HO.out
   obtain ⟨g, rfl, hg, hgb, hcell⟩ := hp.resolve_left (by have := HK.out.2 (by decide); omega)
   obtain ⟨n, hn⟩ : ∃ n, l.length = n := ⟨_, rfl⟩
   have hn0 : 0 < n := hn ▸ HK.out.2 (by decide)
   obtain ⟨j, hj⟩ : ∃ j, K % n = j := ⟨_, rfl⟩
   have hjn : j < n := hj ▸ Nat.mod_lt _ hn0
   have qm : (K : Int).tmod (n : Int) = (j : Int) := by rw [Int.tmod_eq_emod_of_nonneg (by omega), ← hj]; simp
   have qm' : (K : Int) % (n : Int) = (j : Int) := by rw [← hj]; simp
   have hgl : (l.map (Value.int .i64))[j]? = some (.int .i64 (l[j]'(by omega))) := by rw [List.getElem?_map, List.getElem?_eq_getElem (by omega)]; rfl
   obtain ⟨x, hx⟩ : ∃ x, (l[j]'(by omega)) = x := ⟨_, rfl⟩
   rw [hx] at hgl
   have cx : wr.cell? ⟨g, j, none⟩ = some (.int .i64 x) := (hcell j _ hgl).1
   have i0 : (0 : Int) ≤ (j : Int) := by omega
   have i1 : (j : Int) < (n : Int) := by omega
   have n0 : ((n : Int) == 0) = false := by rw [beq_eq_false_iff_ne]; omega
   have n1 : ¬ ((n : Int) = 0) := by omega
   obtain ⟨d7, hd7, _⟩ := i64_mask q1 7 3 (by decide) (by decide)
   obtain ⟨s7, hs7, _⟩ := i64_mask q2 7 3 (by decide) (by decide)
   obtain ⟨bk, hbk, _⟩ := i64_mask q4 63 6 (by decide) (by decide)
   obtain ⟨ba, hba, hba2⟩ := i64_mask q4 65535 16 (by decide) (by decide)
   have hd7 : bits .and .i64 q1 7 = (d7 : Int) := hd7
   have hs7 : bits .and .i64 q2 7 = (s7 : Int) := hs7
   have hbk : bits .and .i64 q4 63 = (bk : Int) := hbk
   have hba : bits .and .i64 q4 65535 = (ba : Int) := hba
   obtain ⟨v, hv⟩ : ∃ v, IntKind.u16.wrap q3 = v := ⟨_, rfl⟩
   have HV : Hid (OkU16 v) := Lib.hid (hv ▸ u16_ok q3)
   obtain ⟨vm, hvm⟩ : ∃ vm, v % 256 = vm := ⟨_, rfl⟩
   have hvt : v.tmod 256 = vm := by rw [Int.tmod_eq_emod_of_nonneg HV.out.1]; exact hvm
   have HVM : Hid (OkU16 vm) := Lib.hid (by unfold OkU16; omega)
   obtain ⟨C, hC⟩ : ∃ C, IntKind.u8.wrap x = C := ⟨_, rfl⟩
   have HC : Hid (0 ≤ C ∧ C < 256) := Lib.hid (by rw [← hC, IntKind.wrap_u8]; omega)
   have HF2 := Lib.hid fun W => rformat_any x W
   have HS2 := Lib.hid fun W => rsize_any C W HC.out.1 HC.out.2
   obtain ⟨f, hf⟩ : ∃ f, rfmt x = f := ⟨_, rfl⟩
   obtain ⟨z, hz⟩ : ∃ z, rsize C = z := ⟨_, rfl⟩
   rw [hf] at HF2
   rw [hz] at HS2
   have hcap' : (n : Int) ≤ (c : Int) := by omega
   obtain ⟨r0, r1, r2, r3, r4⟩ := HQ.out wr HB.out
   rw [hn]
   have HX : Hid (w.heap.size + 1 < wr.heap.size) := Lib.hid (Nat.lt_of_lt_of_le HLT.out HB.out.size)
   clear hp hcell hgl hx hf hz hn hn0 hj hjn HF HF0 HO hcap hgb hg hk h1 hba2
   go_upto_region 8 with (fail)
   clear qm qm' cx i0 i1 n0 n1 hcap' b1
   go_wp2_with fail
   refine (HS2.out _).mono ?_
   rintro e w3 ⟨rfl, h3⟩
   have HB3 := Lib.hid (below_next HB.out h3)
   have HX3 : Hid (w.heap.size + 1 < w3.heap.size) := Lib.hid (Nat.lt_of_lt_of_le HX.out h3.size)
   clear r0 r1 r2 r3 r4 h3
   go_wp2_with (refine wpList_store_row 26 _ _ rfl rfl w3.heap.size rfl #[.int .i64 x, .int .i64 0, .int .i64 0, .int .u16 0, .int .u16 0, .int .i64 0, .int .i64 z] rfl (alloc_at w3 _) vinfo26 rfl (by simp [Value.oneCell']) ?_; refine Hid.out ?_)
   generalize e4 : World.setRow _ _ _ = W4
   have HB4 : Hid (Below W0.heap.size W0 W4) := Lib.hid (e4 ▸ setRow_below (below_alloc HB3.out _) HB3.out.size)
   have HN4 : Hid (InsW w W4 w3.heap.size (w.heap.size + 1)) := Lib.hid (by
    have hb := below_next HB0.out HB4.out
    refine ⟨hb, Nat.le_of_lt (Nat.lt_of_le_of_lt (Nat.le_succ _) HX3.out), Nat.le_succ _, Nat.ne_of_lt HX3.out, v_next HB4.out HR0.out, x, 0, 0, 0, 0, 0, z, ⟨by decide, by decide⟩, ⟨by decide, by decide⟩, ?_⟩
    rw [← e4]
    exact setRow_heap _ _ _ _ _ _ (alloc_at w3 _))
   refine Lib.hid ?_
   clear e4
   obtain ⟨r0, r1, r2, r3, r4⟩ := HQ.out W4 HB4.out
   go_wp2_with fail
   refine (HF2.out _).mono ?_
   rintro e w5 ⟨rfl, h5⟩
   have HB5 := Lib.hid (below_next HB4.out h5)
   have HN5 := Lib.hid (HN4.out.next h5)
   clear r0 r1 r2 r3 r4 h5
   obtain ⟨op, d, s, imm, aux, bank, size, _, _, hb, ⟨c0, c1, c2, c3, c4, c5, c6⟩, z0, z1, z2, z3, z4, z5⟩ := HN5.out.cells
   clear hb
   obtain ⟨r0, r1, r2, r3, r4⟩ := HQ.out _ HB5.out
   go_upto_block 2 with (fail)
   go_cut [] (fun wx => InsW w wx w3.heap.size (w.heap.size + 1) ∧ Below W0.heap.size W0 wx)
   case first =>
    go_upto_region 14 with (fail)
    obtain ⟨y, hy⟩ : ∃ y, (f == 2) = y := ⟨_, rfl⟩
    cases y
    rotate_left
    ·as_aux_lemma =>
      go_upto_region 31 with (fail)
      have h9 := HN5.out
      go_meet
      exact ⟨by first | exact h9 | exact h9.set _ _ (by decide) | exact (h9.set _ _ (by decide)).set _ _ (by decide) | exact h9.set16 _ _ (by decide) (by first | exact HV.out | exact HVM.out | exact u16_ok _ | (have := HV.out.1; have := HV.out.2; constructor <;> omega)) | exact (h9.set _ _ (by decide)).set16 _ _ (by decide) (by first | exact HV.out | exact u16_ok _), by first | exact HB5.out | exact HB5.out.setCell (p := ⟨w3.heap.size, _, none⟩) HB3.out.size _ | exact (HB5.out.setCell (p := ⟨w3.heap.size, _, none⟩) HB3.out.size _).setCell (p := ⟨w3.heap.size, _, none⟩) HB3.out.size _⟩
    go_upto_region 15 with (fail)
    obtain ⟨y, hy⟩ : ∃ y, (f == 5) = y := ⟨_, rfl⟩
    cases y
    rotate_left
    ·as_aux_lemma =>
      go_upto_region 31 with (fail)
      have h9 := HN5.out
      go_meet
      exact ⟨by first | exact h9 | exact h9.set _ _ (by decide) | exact (h9.set _ _ (by decide)).set _ _ (by decide) | exact h9.set16 _ _ (by decide) (by first | exact HV.out | exact HVM.out | exact u16_ok _ | (have := HV.out.1; have := HV.out.2; constructor <;> omega)) | exact (h9.set _ _ (by decide)).set16 _ _ (by decide) (by first | exact HV.out | exact u16_ok _), by first | exact HB5.out | exact HB5.out.setCell (p := ⟨w3.heap.size, _, none⟩) HB3.out.size _ | exact (HB5.out.setCell (p := ⟨w3.heap.size, _, none⟩) HB3.out.size _).setCell (p := ⟨w3.heap.size, _, none⟩) HB3.out.size _⟩
    go_upto_region 16 with (fail)
    obtain ⟨y, hy⟩ : ∃ y, (f == 6) = y := ⟨_, rfl⟩
    cases y
    rotate_left
    ·as_aux_lemma =>
      go_upto_region 31 with (fail)
      have h9 := HN5.out
      go_meet
      exact ⟨by first | exact h9 | exact h9.set _ _ (by decide) | exact (h9.set _ _ (by decide)).set _ _ (by decide) | exact h9.set16 _ _ (by decide) (by first | exact HV.out | exact HVM.out | exact u16_ok _ | (have := HV.out.1; have := HV.out.2; constructor <;> omega)) | exact (h9.set _ _ (by decide)).set16 _ _ (by decide) (by first | exact HV.out | exact u16_ok _), by first | exact HB5.out | exact HB5.out.setCell (p := ⟨w3.heap.size, _, none⟩) HB3.out.size _ | exact (HB5.out.setCell (p := ⟨w3.heap.size, _, none⟩) HB3.out.size _).setCell (p := ⟨w3.heap.size, _, none⟩) HB3.out.size _⟩
    go_upto_region 17 with (fail)
    obtain ⟨y, hy⟩ : ∃ y, (f == 9) = y := ⟨_, rfl⟩
    cases y
    rotate_left
    ·as_aux_lemma =>
      go_upto_region 31 with (fail)
      have h9 := HN5.out
      go_meet
      exact ⟨by first | exact h9 | exact h9.set _ _ (by decide) | exact (h9.set _ _ (by decide)).set _ _ (by decide) | exact h9.set16 _ _ (by decide) (by first | exact HV.out | exact HVM.out | exact u16_ok _ | (have := HV.out.1; have := HV.out.2; constructor <;> omega)) | exact (h9.set _ _ (by decide)).set16 _ _ (by decide) (by first | exact HV.out | exact u16_ok _), by first | exact HB5.out | exact HB5.out.setCell (p := ⟨w3.heap.size, _, none⟩) HB3.out.size _ | exact (HB5.out.setCell (p := ⟨w3.heap.size, _, none⟩) HB3.out.size _).setCell (p := ⟨w3.heap.size, _, none⟩) HB3.out.size _⟩
    go_upto_region 18 with (fail)
    obtain ⟨y, hy⟩ : ∃ y, (f == 13) = y := ⟨_, rfl⟩
    cases y
    rotate_left
    ·as_aux_lemma =>
      go_upto_region 31 with (fail)
      have h9 := HN5.out
      go_meet
      exact ⟨by first | exact h9 | exact h9.set _ _ (by decide) | exact (h9.set _ _ (by decide)).set _ _ (by decide) | exact h9.set16 _ _ (by decide) (by first | exact HV.out | exact HVM.out | exact u16_ok _ | (have := HV.out.1; have := HV.out.2; constructor <;> omega)) | exact (h9.set _ _ (by decide)).set16 _ _ (by decide) (by first | exact HV.out | exact u16_ok _), by first | exact HB5.out | exact HB5.out.setCell (p := ⟨w3.heap.size, _, none⟩) HB3.out.size _ | exact (HB5.out.setCell (p := ⟨w3.heap.size, _, none⟩) HB3.out.size _).setCell (p := ⟨w3.heap.size, _, none⟩) HB3.out.size _⟩
    go_upto_region 19 with (fail)
    obtain ⟨y, hy⟩ : ∃ y, (f == 14) = y := ⟨_, rfl⟩
    cases y
    rotate_left
    ·as_aux_lemma =>
      go_upto_region 31 with (fail)
      have h9 := HN5.out
      go_meet
      exact ⟨by first | exact h9 | exact h9.set _ _ (by decide) | exact (h9.set _ _ (by decide)).set _ _ (by decide) | exact h9.set16 _ _ (by decide) (by first | exact HV.out | exact HVM.out | exact u16_ok _ | (have := HV.out.1; have := HV.out.2; constructor <;> omega)) | exact (h9.set _ _ (by decide)).set16 _ _ (by decide) (by first | exact HV.out | exact u16_ok _), by first | exact HB5.out | exact HB5.out.setCell (p := ⟨w3.heap.size, _, none⟩) HB3.out.size _ | exact (HB5.out.setCell (p := ⟨w3.heap.size, _, none⟩) HB3.out.size _).setCell (p := ⟨w3.heap.size, _, none⟩) HB3.out.size _⟩
    go_upto_region 20 with (fail)
    obtain ⟨y, hy⟩ : ∃ y, (f == 15) = y := ⟨_, rfl⟩
    cases y
    rotate_left
    ·as_aux_lemma =>
      go_upto_region 31 with (fail)
      have h9 := HN5.out
      go_meet
      exact ⟨by first | exact h9 | exact h9.set _ _ (by decide) | exact (h9.set _ _ (by decide)).set _ _ (by decide) | exact h9.set16 _ _ (by decide) (by first | exact HV.out | exact HVM.out | exact u16_ok _ | (have := HV.out.1; have := HV.out.2; constructor <;> omega)) | exact (h9.set _ _ (by decide)).set16 _ _ (by decide) (by first | exact HV.out | exact u16_ok _), by first | exact HB5.out | exact HB5.out.setCell (p := ⟨w3.heap.size, _, none⟩) HB3.out.size _ | exact (HB5.out.setCell (p := ⟨w3.heap.size, _, none⟩) HB3.out.size _).setCell (p := ⟨w3.heap.size, _, none⟩) HB3.out.size _⟩
    go_upto_region 21 with (fail)
    obtain ⟨y, hy⟩ : ∃ y, (f == 18) = y := ⟨_, rfl⟩
    cases y
    rotate_left
    ·as_aux_lemma =>
      go_upto_region 31 with (fail)
      have h9 := HN5.out
      go_meet
      exact ⟨by first | exact h9 | exact h9.set _ _ (by decide) | exact (h9.set _ _ (by decide)).set _ _ (by decide) | exact h9.set16 _ _ (by decide) (by first | exact HV.out | exact HVM.out | exact u16_ok _ | (have := HV.out.1; have := HV.out.2; constructor <;> omega)) | exact (h9.set _ _ (by decide)).set16 _ _ (by decide) (by first | exact HV.out | exact u16_ok _), by first | exact HB5.out | exact HB5.out.setCell (p := ⟨w3.heap.size, _, none⟩) HB3.out.size _ | exact (HB5.out.setCell (p := ⟨w3.heap.size, _, none⟩) HB3.out.size _).setCell (p := ⟨w3.heap.size, _, none⟩) HB3.out.size _⟩
    go_upto_region 23 with (fail)
    obtain ⟨y, hy⟩ : ∃ y, (f == 4) = y := ⟨_, rfl⟩
    cases y
    rotate_left
    ·as_aux_lemma =>
      go_upto_region 31 with (fail)
      have h9 := HN5.out
      go_meet
      exact ⟨by first | exact h9 | exact h9.set _ _ (by decide) | exact (h9.set _ _ (by decide)).set _ _ (by decide) | exact h9.set16 _ _ (by decide) (by first | exact HV.out | exact HVM.out | exact u16_ok _ | (have := HV.out.1; have := HV.out.2; constructor <;> omega)) | exact (h9.set _ _ (by decide)).set16 _ _ (by decide) (by first | exact HV.out | exact u16_ok _), by first | exact HB5.out | exact HB5.out.setCell (p := ⟨w3.heap.size, _, none⟩) HB3.out.size _ | exact (HB5.out.setCell (p := ⟨w3.heap.size, _, none⟩) HB3.out.size _).setCell (p := ⟨w3.heap.size, _, none⟩) HB3.out.size _⟩
    go_upto_region 24 with (fail)
    obtain ⟨y, hy⟩ : ∃ y, (f == 7) = y := ⟨_, rfl⟩
    cases y
    rotate_left
    ·as_aux_lemma =>
      go_upto_region 31 with (fail)
      have h9 := HN5.out
      go_meet
      exact ⟨by first | exact h9 | exact h9.set _ _ (by decide) | exact (h9.set _ _ (by decide)).set _ _ (by decide) | exact h9.set16 _ _ (by decide) (by first | exact HV.out | exact HVM.out | exact u16_ok _ | (have := HV.out.1; have := HV.out.2; constructor <;> omega)) | exact (h9.set _ _ (by decide)).set16 _ _ (by decide) (by first | exact HV.out | exact u16_ok _), by first | exact HB5.out | exact HB5.out.setCell (p := ⟨w3.heap.size, _, none⟩) HB3.out.size _ | exact (HB5.out.setCell (p := ⟨w3.heap.size, _, none⟩) HB3.out.size _).setCell (p := ⟨w3.heap.size, _, none⟩) HB3.out.size _⟩
    go_upto_region 25 with (fail)
    obtain ⟨y, hy⟩ : ∃ y, (f == 8) = y := ⟨_, rfl⟩
    cases y
    rotate_left
    ·as_aux_lemma =>
      go_upto_region 31 with (fail)
      have h9 := HN5.out
      go_meet
      exact ⟨by first | exact h9 | exact h9.set _ _ (by decide) | exact (h9.set _ _ (by decide)).set _ _ (by decide) | exact h9.set16 _ _ (by decide) (by first | exact HV.out | exact HVM.out | exact u16_ok _ | (have := HV.out.1; have := HV.out.2; constructor <;> omega)) | exact (h9.set _ _ (by decide)).set16 _ _ (by decide) (by first | exact HV.out | exact u16_ok _), by first | exact HB5.out | exact HB5.out.setCell (p := ⟨w3.heap.size, _, none⟩) HB3.out.size _ | exact (HB5.out.setCell (p := ⟨w3.heap.size, _, none⟩) HB3.out.size _).setCell (p := ⟨w3.heap.size, _, none⟩) HB3.out.size _⟩
    go_upto_region 26 with (fail)
    obtain ⟨y, hy⟩ : ∃ y, (f == 16) = y := ⟨_, rfl⟩
    cases y
    rotate_left
    ·as_aux_lemma =>
      go_upto_region 31 with (fail)
      have h9 := HN5.out
      go_meet
      exact ⟨by first | exact h9 | exact h9.set _ _ (by decide) | exact (h9.set _ _ (by decide)).set _ _ (by decide) | exact h9.set16 _ _ (by decide) (by first | exact HV.out | exact HVM.out | exact u16_ok _ | (have := HV.out.1; have := HV.out.2; constructor <;> omega)) | exact (h9.set _ _ (by decide)).set16 _ _ (by decide) (by first | exact HV.out | exact u16_ok _), by first | exact HB5.out | exact HB5.out.setCell (p := ⟨w3.heap.size, _, none⟩) HB3.out.size _ | exact (HB5.out.setCell (p := ⟨w3.heap.size, _, none⟩) HB3.out.size _).setCell (p := ⟨w3.heap.size, _, none⟩) HB3.out.size _⟩
    go_upto_region 29 with (fail)
    obtain ⟨y, hy⟩ : ∃ y, (f == 17) = y := ⟨_, rfl⟩
    cases y
    rotate_left
    ·as_aux_lemma =>
      go_upto_region 31 with (fail)
      have h9 := HN5.out
      go_meet
      exact ⟨by first | exact h9 | exact h9.set _ _ (by decide) | exact (h9.set _ _ (by decide)).set _ _ (by decide) | exact h9.set16 _ _ (by decide) (by first | exact HV.out | exact HVM.out | exact u16_ok _ | (have := HV.out.1; have := HV.out.2; constructor <;> omega)) | exact (h9.set _ _ (by decide)).set16 _ _ (by decide) (by first | exact HV.out | exact u16_ok _), by first | exact HB5.out | exact HB5.out.setCell (p := ⟨w3.heap.size, _, none⟩) HB3.out.size _ | exact (HB5.out.setCell (p := ⟨w3.heap.size, _, none⟩) HB3.out.size _).setCell (p := ⟨w3.heap.size, _, none⟩) HB3.out.size _⟩
    go_upto_region 31 with (fail)
    have h9 := HN5.out
    go_meet
    exact ⟨h9, HB5.out⟩
   case rest =>
   have HN6 := Lib.hid hcut.1
   have HB6 := Lib.hid hcut.2
   clear hcut c0 c1 c2 c3 c4 c5 c6 z0 z1 z2 z3 z4 z5 r0 r1 r2 r3 r4 HB5
   have HB5 := Lib.hid HB6.out
   clear HB6
   obtain ⟨op, d, s, imm, aux, bank, size, _, _, hb, ⟨c0, c1, c2, c3, c4, c5, c6⟩, z0, z1, z2, z3, z4, z5⟩ := HN6.out.cells
   clear hb
   obtain ⟨r0, r1, r2, r3, r4⟩ := HQ.out _ HB5.out
   go_upto_block 3 with (fail)
   go_cut [] (fun wx => InsW w wx w3.heap.size (w.heap.size + 1) ∧ Below W0.heap.size W0 wx)
   case first =>
    go_upto_region 32 with (fail)
    obtain ⟨y, hy⟩ : ∃ y, (f == 3) = y := ⟨_, rfl⟩
    cases y
    rotate_left
    ·as_aux_lemma =>
      go_upto_region 50 with (fail)
      have h9 := HN6.out
      go_meet
      exact ⟨by first | exact h9 | exact h9.set _ _ (by decide) | exact (h9.set _ _ (by decide)).set _ _ (by decide) | exact h9.set16 _ _ (by decide) (by first | exact HV.out | exact HVM.out | exact u16_ok _ | (have := HV.out.1; have := HV.out.2; constructor <;> omega)) | exact (h9.set _ _ (by decide)).set16 _ _ (by decide) (by first | exact HV.out | exact u16_ok _), by first | exact HB5.out | exact HB5.out.setCell (p := ⟨w3.heap.size, _, none⟩) HB3.out.size _ | exact (HB5.out.setCell (p := ⟨w3.heap.size, _, none⟩) HB3.out.size _).setCell (p := ⟨w3.heap.size, _, none⟩) HB3.out.size _⟩
    go_upto_region 33 with (fail)
    obtain ⟨y, hy⟩ : ∃ y, (f == 15) = y := ⟨_, rfl⟩
    cases y
    rotate_left
    ·as_aux_lemma =>
      go_upto_region 50 with (fail)
      have h9 := HN6.out
      go_meet
      exact ⟨by first | exact h9 | exact h9.set _ _ (by decide) | exact (h9.set _ _ (by decide)).set _ _ (by decide) | exact h9.set16 _ _ (by decide) (by first | exact HV.out | exact HVM.out | exact u16_ok _ | (have := HV.out.1; have := HV.out.2; constructor <;> omega)) | exact (h9.set _ _ (by decide)).set16 _ _ (by decide) (by first | exact HV.out | exact u16_ok _), by first | exact HB5.out | exact HB5.out.setCell (p := ⟨w3.heap.size, _, none⟩) HB3.out.size _ | exact (HB5.out.setCell (p := ⟨w3.heap.size, _, none⟩) HB3.out.size _).setCell (p := ⟨w3.heap.size, _, none⟩) HB3.out.size _⟩
    go_upto_region 35 with (fail)
    obtain ⟨y, hy⟩ : ∃ y, (f == 5) = y := ⟨_, rfl⟩
    cases y
    rotate_left
    ·as_aux_lemma =>
      have HEX : Hid (0 ≤ IntKind.u8.wrap v ∧ IntKind.u8.wrap v < 256) := Lib.hid (by rw [IntKind.wrap_u8]; omega)
      obtain ⟨v8, hv8⟩ : ∃ v8, IntKind.u8.wrap v = v8 := ⟨_, rfl⟩
      rw [hv8] at HEX
      go_wp2_with fail
      refine (rextend_any v8 _ HEX.out.1 HEX.out.2).mono ?_
      rintro e w9 ⟨y9, hy9, rfl, rfl⟩
      have HY9 := Lib.hid hy9
      clear hy9
      go_upto_region 50 with (fail)
      have h9 := HN6.out
      go_meet
      exact ⟨h9.set16 _ _ (by decide) HY9.out, HB5.out.setCell (p := ⟨w3.heap.size, 3, none⟩) HB3.out.size _⟩
    go_upto_region 36 with (fail)
    obtain ⟨y, hy⟩ : ∃ y, (f == 7) = y := ⟨_, rfl⟩
    cases y
    rotate_left
    ·as_aux_lemma =>
      have HEX : Hid (0 ≤ IntKind.u8.wrap v ∧ IntKind.u8.wrap v < 256) := Lib.hid (by rw [IntKind.wrap_u8]; omega)
      obtain ⟨v8, hv8⟩ : ∃ v8, IntKind.u8.wrap v = v8 := ⟨_, rfl⟩
      rw [hv8] at HEX
      go_wp2_with fail
      refine (rextend_any v8 _ HEX.out.1 HEX.out.2).mono ?_
      rintro e w9 ⟨y9, hy9, rfl, rfl⟩
      have HY9 := Lib.hid hy9
      clear hy9
      go_upto_region 50 with (fail)
      have h9 := HN6.out
      go_meet
      exact ⟨h9.set16 _ _ (by decide) HY9.out, HB5.out.setCell (p := ⟨w3.heap.size, 3, none⟩) HB3.out.size _⟩
    go_upto_region 37 with (fail)
    obtain ⟨y, hy⟩ : ∃ y, (f == 10) = y := ⟨_, rfl⟩
    cases y
    rotate_left
    ·as_aux_lemma =>
      have HEX : Hid (0 ≤ IntKind.u8.wrap v ∧ IntKind.u8.wrap v < 256) := Lib.hid (by rw [IntKind.wrap_u8]; omega)
      obtain ⟨v8, hv8⟩ : ∃ v8, IntKind.u8.wrap v = v8 := ⟨_, rfl⟩
      rw [hv8] at HEX
      go_wp2_with fail
      refine (rextend_any v8 _ HEX.out.1 HEX.out.2).mono ?_
      rintro e w9 ⟨y9, hy9, rfl, rfl⟩
      have HY9 := Lib.hid hy9
      clear hy9
      go_upto_region 50 with (fail)
      have h9 := HN6.out
      go_meet
      exact ⟨h9.set16 _ _ (by decide) HY9.out, HB5.out.setCell (p := ⟨w3.heap.size, 3, none⟩) HB3.out.size _⟩
    go_upto_region 38 with (fail)
    obtain ⟨y, hy⟩ : ∃ y, (f == 18) = y := ⟨_, rfl⟩
    cases y
    rotate_left
    ·as_aux_lemma =>
      have HEX : Hid (0 ≤ IntKind.u8.wrap v ∧ IntKind.u8.wrap v < 256) := Lib.hid (by rw [IntKind.wrap_u8]; omega)
      obtain ⟨v8, hv8⟩ : ∃ v8, IntKind.u8.wrap v = v8 := ⟨_, rfl⟩
      rw [hv8] at HEX
      go_wp2_with fail
      refine (rextend_any v8 _ HEX.out.1 HEX.out.2).mono ?_
      rintro e w9 ⟨y9, hy9, rfl, rfl⟩
      have HY9 := Lib.hid hy9
      clear hy9
      go_upto_region 50 with (fail)
      have h9 := HN6.out
      go_meet
      exact ⟨h9.set16 _ _ (by decide) HY9.out, HB5.out.setCell (p := ⟨w3.heap.size, 3, none⟩) HB3.out.size _⟩
    go_upto_region 40 with (fail)
    obtain ⟨y, hy⟩ : ∃ y, (f == 6) = y := ⟨_, rfl⟩
    cases y
    rotate_left
    ·as_aux_lemma =>
      go_upto_region 50 with (fail)
      have h9 := HN6.out
      go_meet
      exact ⟨by first | exact h9 | exact h9.set _ _ (by decide) | exact (h9.set _ _ (by decide)).set _ _ (by decide) | exact h9.set16 _ _ (by decide) (by first | exact HV.out | exact HVM.out | exact u16_ok _ | (have := HV.out.1; have := HV.out.2; constructor <;> omega)) | exact (h9.set _ _ (by decide)).set16 _ _ (by decide) (by first | exact HV.out | exact u16_ok _), by first | exact HB5.out | exact HB5.out.setCell (p := ⟨w3.heap.size, _, none⟩) HB3.out.size _ | exact (HB5.out.setCell (p := ⟨w3.heap.size, _, none⟩) HB3.out.size _).setCell (p := ⟨w3.heap.size, _, none⟩) HB3.out.size _⟩
    go_upto_region 41 with (fail)
    obtain ⟨y, hy⟩ : ∃ y, (f == 8) = y := ⟨_, rfl⟩
    cases y
    rotate_left
    ·as_aux_lemma =>
      go_upto_region 50 with (fail)
      have h9 := HN6.out
      go_meet
      exact ⟨by first | exact h9 | exact h9.set _ _ (by decide) | exact (h9.set _ _ (by decide)).set _ _ (by decide) | exact h9.set16 _ _ (by decide) (by first | exact HV.out | exact HVM.out | exact u16_ok _ | (have := HV.out.1; have := HV.out.2; constructor <;> omega)) | exact (h9.set _ _ (by decide)).set16 _ _ (by decide) (by first | exact HV.out | exact u16_ok _), by first | exact HB5.out | exact HB5.out.setCell (p := ⟨w3.heap.size, _, none⟩) HB3.out.size _ | exact (HB5.out.setCell (p := ⟨w3.heap.size, _, none⟩) HB3.out.size _).setCell (p := ⟨w3.heap.size, _, none⟩) HB3.out.size _⟩
    go_upto_region 42 with (fail)
    obtain ⟨y, hy⟩ : ∃ y, (f == 9) = y := ⟨_, rfl⟩
    cases y
    rotate_left
    ·as_aux_lemma =>
      go_upto_region 50 with (fail)
      have h9 := HN6.out
      go_meet
      exact ⟨by first | exact h9 | exact h9.set _ _ (by decide) | exact (h9.set _ _ (by decide)).set _ _ (by decide) | exact h9.set16 _ _ (by decide) (by first | exact HV.out | exact HVM.out | exact u16_ok _ | (have := HV.out.1; have := HV.out.2; constructor <;> omega)) | exact (h9.set _ _ (by decide)).set16 _ _ (by decide) (by first | exact HV.out | exact u16_ok _), by first | exact HB5.out | exact HB5.out.setCell (p := ⟨w3.heap.size, _, none⟩) HB3.out.size _ | exact (HB5.out.setCell (p := ⟨w3.heap.size, _, none⟩) HB3.out.size _).setCell (p := ⟨w3.heap.size, _, none⟩) HB3.out.size _⟩
    go_upto_region 43 with (fail)
    obtain ⟨y, hy⟩ : ∃ y, (f == 11) = y := ⟨_, rfl⟩
    cases y
    rotate_left
    ·as_aux_lemma =>
      go_upto_region 50 with (fail)
      have h9 := HN6.out
      go_meet
      exact ⟨by first | exact h9 | exact h9.set _ _ (by decide) | exact (h9.set _ _ (by decide)).set _ _ (by decide) | exact h9.set16 _ _ (by decide) (by first | exact HV.out | exact HVM.out | exact u16_ok _ | (have := HV.out.1; have := HV.out.2; constructor <;> omega)) | exact (h9.set _ _ (by decide)).set16 _ _ (by decide) (by first | exact HV.out | exact u16_ok _), by first | exact HB5.out | exact HB5.out.setCell (p := ⟨w3.heap.size, _, none⟩) HB3.out.size _ | exact (HB5.out.setCell (p := ⟨w3.heap.size, _, none⟩) HB3.out.size _).setCell (p := ⟨w3.heap.size, _, none⟩) HB3.out.size _⟩
    go_upto_region 44 with (fail)
    obtain ⟨y, hy⟩ : ∃ y, (f == 12) = y := ⟨_, rfl⟩
    cases y
    rotate_left
    ·as_aux_lemma =>
      go_upto_region 50 with (fail)
      have h9 := HN6.out
      go_meet
      exact ⟨by first | exact h9 | exact h9.set _ _ (by decide) | exact (h9.set _ _ (by decide)).set _ _ (by decide) | exact h9.set16 _ _ (by decide) (by first | exact HV.out | exact HVM.out | exact u16_ok _ | (have := HV.out.1; have := HV.out.2; constructor <;> omega)) | exact (h9.set _ _ (by decide)).set16 _ _ (by decide) (by first | exact HV.out | exact u16_ok _), by first | exact HB5.out | exact HB5.out.setCell (p := ⟨w3.heap.size, _, none⟩) HB3.out.size _ | exact (HB5.out.setCell (p := ⟨w3.heap.size, _, none⟩) HB3.out.size _).setCell (p := ⟨w3.heap.size, _, none⟩) HB3.out.size _⟩
    go_upto_region 45 with (fail)
    obtain ⟨y, hy⟩ : ∃ y, (f == 13) = y := ⟨_, rfl⟩
    cases y
    rotate_left
    ·as_aux_lemma =>
      go_upto_region 50 with (fail)
      have h9 := HN6.out
      go_meet
      exact ⟨by first | exact h9 | exact h9.set _ _ (by decide) | exact (h9.set _ _ (by decide)).set _ _ (by decide) | exact h9.set16 _ _ (by decide) (by first | exact HV.out | exact HVM.out | exact u16_ok _ | (have := HV.out.1; have := HV.out.2; constructor <;> omega)) | exact (h9.set _ _ (by decide)).set16 _ _ (by decide) (by first | exact HV.out | exact u16_ok _), by first | exact HB5.out | exact HB5.out.setCell (p := ⟨w3.heap.size, _, none⟩) HB3.out.size _ | exact (HB5.out.setCell (p := ⟨w3.heap.size, _, none⟩) HB3.out.size _).setCell (p := ⟨w3.heap.size, _, none⟩) HB3.out.size _⟩
    go_upto_region 46 with (fail)
    obtain ⟨y, hy⟩ : ∃ y, (f == 14) = y := ⟨_, rfl⟩
    cases y
    rotate_left
    ·as_aux_lemma =>
      go_upto_region 50 with (fail)
      have h9 := HN6.out
      go_meet
      exact ⟨by first | exact h9 | exact h9.set _ _ (by decide) | exact (h9.set _ _ (by decide)).set _ _ (by decide) | exact h9.set16 _ _ (by decide) (by first | exact HV.out | exact HVM.out | exact u16_ok _ | (have := HV.out.1; have := HV.out.2; constructor <;> omega)) | exact (h9.set _ _ (by decide)).set16 _ _ (by decide) (by first | exact HV.out | exact u16_ok _), by first | exact HB5.out | exact HB5.out.setCell (p := ⟨w3.heap.size, _, none⟩) HB3.out.size _ | exact (HB5.out.setCell (p := ⟨w3.heap.size, _, none⟩) HB3.out.size _).setCell (p := ⟨w3.heap.size, _, none⟩) HB3.out.size _⟩
    go_upto_region 47 with (fail)
    obtain ⟨y, hy⟩ : ∃ y, (f == 16) = y := ⟨_, rfl⟩
    cases y
    rotate_left
    ·as_aux_lemma =>
      go_upto_region 50 with (fail)
      have h9 := HN6.out
      go_meet
      exact ⟨by first | exact h9 | exact h9.set _ _ (by decide) | exact (h9.set _ _ (by decide)).set _ _ (by decide) | exact h9.set16 _ _ (by decide) (by first | exact HV.out | exact HVM.out | exact u16_ok _ | (have := HV.out.1; have := HV.out.2; constructor <;> omega)) | exact (h9.set _ _ (by decide)).set16 _ _ (by decide) (by first | exact HV.out | exact u16_ok _), by first | exact HB5.out | exact HB5.out.setCell (p := ⟨w3.heap.size, _, none⟩) HB3.out.size _ | exact (HB5.out.setCell (p := ⟨w3.heap.size, _, none⟩) HB3.out.size _).setCell (p := ⟨w3.heap.size, _, none⟩) HB3.out.size _⟩
    go_upto_region 48 with (fail)
    obtain ⟨y, hy⟩ : ∃ y, (f == 17) = y := ⟨_, rfl⟩
    cases y
    rotate_left
    ·as_aux_lemma =>
      go_upto_region 50 with (fail)
      have h9 := HN6.out
      go_meet
      exact ⟨by first | exact h9 | exact h9.set _ _ (by decide) | exact (h9.set _ _ (by decide)).set _ _ (by decide) | exact h9.set16 _ _ (by decide) (by first | exact HV.out | exact HVM.out | exact u16_ok _ | (have := HV.out.1; have := HV.out.2; constructor <;> omega)) | exact (h9.set _ _ (by decide)).set16 _ _ (by decide) (by first | exact HV.out | exact u16_ok _), by first | exact HB5.out | exact HB5.out.setCell (p := ⟨w3.heap.size, _, none⟩) HB3.out.size _ | exact (HB5.out.setCell (p := ⟨w3.heap.size, _, none⟩) HB3.out.size _).setCell (p := ⟨w3.heap.size, _, none⟩) HB3.out.size _⟩
    go_upto_region 50 with (fail)
    have h9 := HN6.out
    go_meet
    exact ⟨h9, HB5.out⟩
   case rest =>
   have HN7 := Lib.hid hcut.1
   have HB6 := Lib.hid hcut.2
   clear hcut c0 c1 c2 c3 c4 c5 c6 z0 z1 z2 z3 z4 z5 r0 r1 r2 r3 r4 HB5
   have HB5 := Lib.hid HB6.out
   clear HB6
   obtain ⟨op, d, s, imm, aux, bank, size, _, _, hb, ⟨c0, c1, c2, c3, c4, c5, c6⟩, z0, z1, z2, z3, z4, z5⟩ := HN7.out.cells
   clear hb
   obtain ⟨r0, r1, r2, r3, r4⟩ := HQ.out _ HB5.out
   go_upto_block 4 with (fail)
   go_cut [] (fun wx => InsW w wx w3.heap.size (w.heap.size + 1) ∧ Below W0.heap.size W0 wx)
   case first =>
    go_upto_region 51 with (fail)
    obtain ⟨y, hy⟩ : ∃ y, (f == 12) = y := ⟨_, rfl⟩
    cases y
    rotate_left
    ·as_aux_lemma =>
      go_upto_region 59 with (fail)
      have h9 := HN7.out
      go_meet
      exact ⟨by first | exact h9 | exact h9.set _ _ (by decide) | exact (h9.set _ _ (by decide)).set _ _ (by decide) | exact h9.set16 _ _ (by decide) (by first | exact HV.out | exact HVM.out | exact u16_ok _ | (have := HV.out.1; have := HV.out.2; constructor <;> omega)) | exact (h9.set _ _ (by decide)).set16 _ _ (by decide) (by first | exact HV.out | exact u16_ok _), by first | exact HB5.out | exact HB5.out.setCell (p := ⟨w3.heap.size, _, none⟩) HB3.out.size _ | exact (HB5.out.setCell (p := ⟨w3.heap.size, _, none⟩) HB3.out.size _).setCell (p := ⟨w3.heap.size, _, none⟩) HB3.out.size _⟩
    go_upto_region 52 with (fail)
    obtain ⟨y, hy⟩ : ∃ y, (f == 16) = y := ⟨_, rfl⟩
    cases y
    rotate_left
    ·as_aux_lemma =>
      go_upto_region 59 with (fail)
      have h9 := HN7.out
      go_meet
      exact ⟨by first | exact h9 | exact h9.set _ _ (by decide) | exact (h9.set _ _ (by decide)).set _ _ (by decide) | exact h9.set16 _ _ (by decide) (by first | exact HV.out | exact HVM.out | exact u16_ok _ | (have := HV.out.1; have := HV.out.2; constructor <;> omega)) | exact (h9.set _ _ (by decide)).set16 _ _ (by decide) (by first | exact HV.out | exact u16_ok _), by first | exact HB5.out | exact HB5.out.setCell (p := ⟨w3.heap.size, _, none⟩) HB3.out.size _ | exact (HB5.out.setCell (p := ⟨w3.heap.size, _, none⟩) HB3.out.size _).setCell (p := ⟨w3.heap.size, _, none⟩) HB3.out.size _⟩
    go_upto_region 54 with (fail)
    obtain ⟨y, hy⟩ : ∃ y, (f == 13) = y := ⟨_, rfl⟩
    cases y
    rotate_left
    ·as_aux_lemma =>
      go_upto_region 59 with (fail)
      have h9 := HN7.out
      go_meet
      exact ⟨by first | exact h9 | exact h9.set _ _ (by decide) | exact (h9.set _ _ (by decide)).set _ _ (by decide) | exact h9.set16 _ _ (by decide) (by first | exact HV.out | exact HVM.out | exact u16_ok _ | (have := HV.out.1; have := HV.out.2; constructor <;> omega)) | exact (h9.set _ _ (by decide)).set16 _ _ (by decide) (by first | exact HV.out | exact u16_ok _), by first | exact HB5.out | exact HB5.out.setCell (p := ⟨w3.heap.size, _, none⟩) HB3.out.size _ | exact (HB5.out.setCell (p := ⟨w3.heap.size, _, none⟩) HB3.out.size _).setCell (p := ⟨w3.heap.size, _, none⟩) HB3.out.size _⟩
    go_upto_region 57 with (fail)
    obtain ⟨y, hy⟩ : ∃ y, (f == 17) = y := ⟨_, rfl⟩
    cases y
    rotate_left
    ·as_aux_lemma =>
      go_upto_region 59 with (fail)
      have h9 := HN7.out
      go_meet
      exact ⟨by first | exact h9 | exact h9.set _ _ (by decide) | exact (h9.set _ _ (by decide)).set _ _ (by decide) | exact h9.set16 _ _ (by decide) (by first | exact HV.out | exact HVM.out | exact u16_ok _ | (have := HV.out.1; have := HV.out.2; constructor <;> omega)) | exact (h9.set _ _ (by decide)).set16 _ _ (by decide) (by first | exact HV.out | exact u16_ok _), by first | exact HB5.out | exact HB5.out.setCell (p := ⟨w3.heap.size, _, none⟩) HB3.out.size _ | exact (HB5.out.setCell (p := ⟨w3.heap.size, _, none⟩) HB3.out.size _).setCell (p := ⟨w3.heap.size, _, none⟩) HB3.out.size _⟩
    go_upto_region 59 with (fail)
    have h9 := HN7.out
    go_meet
    exact ⟨h9, HB5.out⟩
   case rest =>
   have HN8 := Lib.hid hcut.1
   have HB6 := Lib.hid hcut.2
   clear hcut c0 c1 c2 c3 c4 c5 c6 z0 z1 z2 z3 z4 z5 r0 r1 r2 r3 r4 HB5
   have HB5 := Lib.hid HB6.out
   clear HB6
   obtain ⟨op, d, s, imm, aux, bank, size, hi, ha, hb, _, _⟩ := HN8.out.cells
   have HII := Lib.hid hi
   have HAA := Lib.hid ha
   have HBB := Lib.hid hb
   clear hi ha hb
   go_wp2_with (first | refine wpList_load_row 26 _ rfl rfl (w3.heap.size) rfl #[.int .i64 op, .int .i64 d, .int .i64 s, .int .u16 imm, .int .u16 aux, .int .i64 bank, .int .i64 size] HBB.out Try.underlying26 vinfo26 ?_ | (refine wpList_store_row 26 _ _ rfl rfl (w.heap.size + 1) rfl #[.int .i64 op, .int .i64 d, .int .i64 s, .int .u16 imm, .int .u16 aux, .int .i64 bank, .int .i64 size] rfl HN8.out.res vinfo26 rfl (by simp [Value.oneCell']) ?_; refine Hid.out ?_))
   generalize e9 : World.setRow _ _ _ = W9
   have HX9 := Lib.hid (show W9.heap[w.heap.size + 1]? = some (.cells #[.int .i64 op, .int .i64 d, .int .i64 s, .int .u16 imm, .int .u16 aux, .int .i64 bank, .int .i64 size] 26 (0, 0)) from e9 ▸ setRow_heap _ _ _ _ _ _ HN8.out.res)
   have HB9 := Lib.hid (show Below w.heap.size w W9 from e9 ▸ setRow_below HN8.out.bel HN8.out.lowR)
   refine Lib.hid ?_
   clear e9
   go_wp2_with fail
   exact bodyPost_ret (v := .agg #[.int .i64 op, .int .i64 d, .int .i64 s, .int .u16 imm, .int .u16 aux, .int .i64 bank, .int .i64 size]) (row_result rfl _ _ (w.heap.size + 1) _ 26 rfl HX9.out Try.underlying26 vinfo26) rfl ⟨op, d, s, imm, aux, bank, size, HII.out, HAA.out, rfl, HB9.out⟩
end Go.Proofs.Ytieaicdihingkaa
