/- Made and Tame: they give some instruction. -/
import Derived.Test.YtieaicdihingkaaV1
import Derived.Test.YtieaicdihingkaaK25
import Derived.Deep.CutBlock
namespace Go.Proofs.Ytieaicdihingkaa
set_option linter.unusedVariables false
set_option linter.unusedSimpArgs false
open Go.RowKit
theorem i64_mask (n : Int) (m k : Nat) (hm : (BitVec.ofInt 64 (m : Int)).toNat = 2 ^ k - 1) (hk : k ≤ 32) : ∃ r : Nat, bits .and .i64 n (m : Int) = (r : Int) ∧ r < 2 ^ k := by
 have key : (BitVec.ofInt 64 n &&& BitVec.ofInt 64 (m : Int)).toNat = (n % ((2 ^ 64 : Nat) : Int)).toNat % 2 ^ k := by
  rw [BitVec.toNat_and, BitVec.toNat_ofInt, hm, Nat.and_two_pow_sub_one_eq_mod]
 have hp : 2 ^ k ≤ 2 ^ 32 := Nat.pow_le_pow_right (by decide) hk
 have hlt := Nat.mod_lt (n % ((2 ^ 64 : Nat) : Int)).toNat (Nat.two_pow_pos k)
 refine ⟨(n % ((2 ^ 64 : Nat) : Int)).toNat % 2 ^ k, ?_, hlt⟩
 show IntKind.i64.wrap ((BitVec.ofInt 64 n &&& BitVec.ofInt 64 (m : Int)).toNat : Nat) = _
 rw [key]
 exact IntWalk.i64_in _ (by omega)
theorem u16_ok (x : Int) : OkU16 (IntKind.u16.wrap x) := by rw [IntKind.wrap_u16]; unfold OkU16; omega
/-- An instruction in memory, and the result's cells. -/
structure InsW (w W : World) (B R : Nat) : Prop where
 bel : Below w.heap.size w W
 low : w.heap.size ≤ B
 lowR : w.heap.size ≤ R
 ne : R ≠ B
 res : W.heap[R]? = some (.cells #[.int .i64 0, .int .i64 0, .int .i64 0, .int .u16 0, .int .u16 0, .int .i64 0, .int .i64 0] 26 (0, 0))
 ins : ∃ op d s imm aux bank size : Int, OkU16 imm ∧ OkU16 aux ∧ W.heap[B]? = some (.cells #[.int .i64 op, .int .i64 d, .int .i64 s, .int .u16 imm, .int .u16 aux, .int .i64 bank, .int .i64 size] 26 (0, 0))
theorem v_set {w W : World} {B k : Nat} {c : Array Value} {t : TypeId} {f : Nat × Nat} {v : Value} (h : w.heap[B]? = some (.cells c t f)) (e : w.setCell ⟨B, k, none⟩ v = W) : W.heap[B]? = some (.cells (c.setIfInBounds k v) t f) := e ▸ setCell_blk h
theorem InsW.put {w W : World} {B R : Nat} (h : InsW w W B R) (k : Nat) (v : Value) (hi : ∃ op d s imm aux bank size : Int, OkU16 imm ∧ OkU16 aux ∧ (W.setCell ⟨B, k, none⟩ v).heap[B]? = some (.cells #[.int .i64 op, .int .i64 d, .int .i64 s, .int .u16 imm, .int .u16 aux, .int .i64 bank, .int .i64 size] 26 (0, 0))) : InsW w (W.setCell ⟨B, k, none⟩ v) B R :=
 ⟨h.bel.setCell (p := ⟨B, k, none⟩) h.low _, h.low, h.lowR, h.ne, (Below.heap_setCell _ _ _ _ h.ne).trans h.res, hi⟩
theorem InsW.set {w W : World} {B R : Nat} (h : InsW w W B R) (k : Nat) (x : Int) (hk : k = 0 ∨ k = 1 ∨ k = 2 ∨ k = 5 ∨ k = 6) : InsW w (W.setCell ⟨B, k, none⟩ (.int .i64 x)) B R := by
 refine h.put _ _ ?_
 obtain ⟨op, d, s, imm, aux, bank, size, hi, ha, hb⟩ := h.ins
 rcases hk with rfl | rfl | rfl | rfl | rfl
 ·exact ⟨x, d, s, imm, aux, bank, size, hi, ha, v_set hb rfl⟩
 ·exact ⟨op, x, s, imm, aux, bank, size, hi, ha, v_set hb rfl⟩
 ·exact ⟨op, d, x, imm, aux, bank, size, hi, ha, v_set hb rfl⟩
 ·exact ⟨op, d, s, imm, aux, x, size, hi, ha, v_set hb rfl⟩
 ·exact ⟨op, d, s, imm, aux, bank, x, hi, ha, v_set hb rfl⟩
theorem InsW.set16 {w W : World} {B R : Nat} (h : InsW w W B R) (k : Nat) (x : Int) (hk : k = 3 ∨ k = 4) (hx : OkU16 x) : InsW w (W.setCell ⟨B, k, none⟩ (.int .u16 x)) B R := by
 refine h.put _ _ ?_
 obtain ⟨op, d, s, imm, aux, bank, size, hi, ha, hb⟩ := h.ins
 rcases hk with rfl | rfl
 ·exact ⟨op, d, s, x, aux, bank, size, hx, ha, v_set hb rfl⟩
 ·exact ⟨op, d, s, imm, x, bank, size, hi, hx, v_set hb rfl⟩
theorem InsW.row {w W : World} {B R : Nat} (h : InsW w W B R) (op d s imm aux bank size : Int) (hi : OkU16 imm) (ha : OkU16 aux) : InsW w (W.setRow B #[.int .i64 op, .int .i64 d, .int .i64 s, .int .u16 imm, .int .u16 aux, .int .i64 bank, .int .i64 size]) B R := by
 obtain ⟨_, _, _, _, _, _, _, _, _, hb⟩ := h.ins
 exact ⟨setRow_below h.bel h.low, h.low, h.lowR, h.ne, (setRow_other _ _ _ _ h.ne).trans h.res, op, d, s, imm, aux, bank, size, hi, ha, setRow_heap _ _ _ _ _ _ hb⟩
theorem InsW.next {w W W' : World} {B R : Nat} (h : InsW w W B R) (hb : Below W.heap.size W W') : InsW w W' B R := by
 obtain ⟨op, d, s, imm, aux, bank, size, hi, ha, hh⟩ := h.ins
 exact ⟨below_next h.bel hb, h.low, h.lowR, h.ne, v_next hb h.res, op, d, s, imm, aux, bank, size, hi, ha, v_next hb hh⟩
theorem InsW.cells {w W : World} {B R : Nat} (h : InsW w W B R) : ∃ op d s imm aux bank size : Int, OkU16 imm ∧ OkU16 aux ∧ W.heap[B]? = some (.cells #[.int .i64 op, .int .i64 d, .int .i64 s, .int .u16 imm, .int .u16 aux, .int .i64 bank, .int .i64 size] 26 (0, 0)) ∧ (W.cell? ⟨B, 0, none⟩ = some (.int .i64 op) ∧ W.cell? ⟨B, 1, none⟩ = some (.int .i64 d) ∧ W.cell? ⟨B, 2, none⟩ = some (.int .i64 s) ∧ W.cell? ⟨B, 3, none⟩ = some (.int .u16 imm) ∧ W.cell? ⟨B, 4, none⟩ = some (.int .u16 aux) ∧ W.cell? ⟨B, 5, none⟩ = some (.int .i64 bank) ∧ W.cell? ⟨B, 6, none⟩ = some (.int .i64 size)) ∧ (W.frozen? ⟨B, 0, none⟩ = false ∧ W.frozen? ⟨B, 1, none⟩ = false ∧ W.frozen? ⟨B, 2, none⟩ = false ∧ W.frozen? ⟨B, 3, none⟩ = false ∧ W.frozen? ⟨B, 4, none⟩ = false ∧ W.frozen? ⟨B, 5, none⟩ = false) := by
 obtain ⟨op, d, s, imm, aux, bank, size, hi, ha, hb⟩ := h.ins
 have hf : ∀ k, W.frozen? ⟨B, k, none⟩ = false := fun k => by unfold World.frozen?; rw [hb]; simp
 have hc := Lib.cell_of_heap hb
 exact ⟨op, d, s, imm, aux, bank, size, hi, ha, hb, ⟨hc 0, hc 1, hc 2, hc 3, hc 4, hc 5, hc 6⟩, hf 0, hf 1, hf 2, hf 3, hf 4, hf 5⟩
theorem vinfo26 : (Try.prog.info? 26).map (·.size) = some 7 := by kernel_rfl
def InsPost (w : World) (e : Ending) (w' : World) : Prop := ∃ op d s imm aux bank size : Int, OkU16 imm ∧ OkU16 aux ∧ e = .returned (.agg #[.int .i64 op, .int .i64 d, .int .i64 s, .int .u16 imm, .int .u16 aux, .int .i64 bank, .int .i64 size]) ∧ Below w.heap.size w w'
theorem rextend_any (c : Int) (w : World) (h0 : 0 ≤ c) (h1 : c < 256) : Calls Try.prog 87 #[.int .u8 c] w fun e w' => ∃ x, OkU16 x ∧ e = .returned (.int .u16 x) ∧ w = w' := by
 have q : IntKind.u16.wrap c = c := by rw [IntKind.wrap_u16]; omega
 have HX : Hid (OkU16 c) := Lib.hid ⟨h0, by omega⟩
 have HY := Lib.hid (u16_ok (65280 + c))
 obtain ⟨y, hy⟩ : ∃ y, IntKind.u16.wrap (65280 + c) = y := ⟨_, rfl⟩
 rw [hy] at HY
 obtain ⟨a, ha⟩ : ∃ a, decide (c < 128) = a := ⟨_, rfl⟩
 clear h0 h1
 cases a
 all_goals
  go_enter Try.func87, Try.ntmps87
  go_wp2_with fail
  go_ret
  first | exact ⟨_, HX.out, rfl, rfl⟩ | exact ⟨_, HY.out, rfl, rfl⟩
set_option maxRecDepth 20000 in
set_option maxHeartbeats 40000000 in
theorem tame_some (op d s imm aux bank size k : Int) (w : World) (hi : OkU16 imm) (ha : OkU16 aux) : Calls Try.prog 69 #[.agg #[.int .i64 op, .int .i64 d, .int .i64 s, .int .u16 imm, .int .u16 aux, .int .i64 bank, .int .i64 size], .int .i64 k] w (InsPost w) := by
 obtain ⟨K, hK, hK2⟩ := i64_mask k 65535 16 (by decide) (by decide)
 have hK : bits .and .i64 k 65535 = (K : Int) := hK
 have HI := Lib.hid hi
 have HA := Lib.hid ha
 have HK2 := Lib.hid hK2
 obtain ⟨r8, h8⟩ : ∃ r8, (K : Int).tmod 8 = r8 := ⟨_, rfl⟩
 have h8' : (K : Int) % 8 = r8 := by rw [← h8, Int.tmod_eq_emod_of_nonneg (by omega)]
 obtain ⟨b8, hb8⟩ : ∃ b, (r8 == 0) = b := ⟨_, rfl⟩
 clear hi ha hK2
 go_enter Try.func69, Try.ntmps69
 go_upto_region 1 with (fail)
 generalize e0 : (w.alloc _).alloc _ = W0
 have HN0 : Hid (InsW w W0 w.heap.size (w.heap.size + 1)) := Lib.hid (by
  have h9 := alloc_at (w.alloc (.cells #[.int .i64 op, .int .i64 d, .int .i64 s, .int .u16 imm, .int .u16 aux, .int .i64 bank, .int .i64 size] 26)) (.cells #[.int .i64 0, .int .i64 0, .int .i64 0, .int .u16 0, .int .u16 0, .int .i64 0, .int .i64 0] 26)
  rw [World.size_alloc] at h9
  exact ⟨e0 ▸ below_alloc (below1 w _) _, Nat.le_refl _, by omega, by omega, e0 ▸ h9, op, d, s, imm, aux, bank, size, HI.out, HA.out, e0 ▸ blk_mid1 w _ _⟩)
 clear e0
 cases b8
 rotate_left
 ·go_upto_region 3 with (fail)
  obtain ⟨op, d, s, imm, aux, bank, size, hi, ha, hb, _, _⟩ := HN0.out.cells
  have HII := Lib.hid hi
  have HAA := Lib.hid ha
  have HBB := Lib.hid hb
  clear hi ha hb
  go_wp2_with (first | refine wpList_load_row 26 _ rfl rfl (w.heap.size) rfl #[.int .i64 op, .int .i64 d, .int .i64 s, .int .u16 imm, .int .u16 aux, .int .i64 bank, .int .i64 size] HBB.out Try.underlying26 vinfo26 ?_ | (refine wpList_store_row 26 _ _ rfl rfl (w.heap.size + 1) rfl #[.int .i64 op, .int .i64 d, .int .i64 s, .int .u16 imm, .int .u16 aux, .int .i64 bank, .int .i64 size] rfl HN0.out.res vinfo26 rfl (by simp [Value.oneCell']) ?_; refine Hid.out ?_))
  generalize e9 : World.setRow _ _ _ = W9
  have HX9 := Lib.hid (show W9.heap[w.heap.size + 1]? = some (.cells #[.int .i64 op, .int .i64 d, .int .i64 s, .int .u16 imm, .int .u16 aux, .int .i64 bank, .int .i64 size] 26 (0, 0)) from e9 ▸ setRow_heap _ _ _ _ _ _ HN0.out.res)
  have HB9 := Lib.hid (show Below w.heap.size w W9 from e9 ▸ setRow_below HN0.out.bel HN0.out.lowR)
  refine Lib.hid ?_
  clear e9
  go_wp2_with fail
  exact bodyPost_ret (v := .agg #[.int .i64 op, .int .i64 d, .int .i64 s, .int .u16 imm, .int .u16 aux, .int .i64 bank, .int .i64 size]) (row_result rfl _ _ (w.heap.size + 1) _ 26 rfl HX9.out Try.underlying26 vinfo26) rfl ⟨op, d, s, imm, aux, bank, size, HII.out, HAA.out, rfl, HB9.out⟩

 clear HI HA
 obtain ⟨op, d, s, imm, aux, bank, size, _, _, hb, ⟨c0, c1, c2, c3, c4, c5, c6⟩, z0, z1, z2, z3, z4, z5⟩ := HN0.out.cells
 have HBB := Lib.hid hb
 clear hb
 go_upto_block 0 with (fail)
 go_cut [] (fun wx => InsW w wx w.heap.size (w.heap.size + 1))
 case first =>
  go_upto_region 5 with (fail)
  go_cut [14] (fun sx wx => ∃ b : Bool, sx = .bool b ∧ W0 = wx)
  case first => as_aux_lemma =>
   obtain ⟨y0, hy0⟩ : ∃ x, decide (80 ≤ op) = x := ⟨_, rfl⟩
   obtain ⟨y1, hy1⟩ : ∃ x, decide (op ≤ 83) = x := ⟨_, rfl⟩
   cases y0 <;> (go_wp2_with fail; go_meet; exact ⟨_, rfl, rfl⟩)
  case rest =>
  obtain ⟨b, rfl, rfl⟩ := hcut
  cases b
  rotate_left
  ·as_aux_lemma =>
    go_upto_region 37 with (fail)
    have h9 := HN0.out
    go_meet
    first | exact h9 | exact h9.set _ _ (by decide) | exact (h9.set _ _ (by decide)).set _ _ (by decide) | exact h9.set16 _ _ (by decide) (by first | exact u16_ok _ | exact ⟨by decide, by decide⟩) | exact (h9.set _ _ (by decide)).set16 _ _ (by decide) (by first | exact u16_ok _ | exact ⟨by decide, by decide⟩) | exact (h9.set16 _ _ (by decide) (by first | exact u16_ok _ | exact ⟨by decide, by decide⟩)).set _ _ (by decide) | exact (h9.set16 _ _ (by decide) (by first | exact u16_ok _ | exact ⟨by decide, by decide⟩)).set16 _ _ (by decide) (by first | exact u16_ok _ | exact ⟨by decide, by decide⟩) | exact h9.row 0 0 0 0 0 0 1 ⟨by decide, by decide⟩ ⟨by decide, by decide⟩
  go_upto_region 8 with (fail)
  go_cut [27] (fun sx wx => ∃ b : Bool, sx = .bool b ∧ W0 = wx)
  case first => as_aux_lemma =>
   obtain ⟨y0, hy0⟩ : ∃ x, decide (88 ≤ op) = x := ⟨_, rfl⟩
   obtain ⟨y1, hy1⟩ : ∃ x, decide (op ≤ 91) = x := ⟨_, rfl⟩
   obtain ⟨y2, hy2⟩ : ∃ x, (op == 150) = x := ⟨_, rfl⟩
   cases y0 <;> cases y1 <;> (go_wp2_with fail; go_meet; exact ⟨_, rfl, rfl⟩)
  case rest =>
  obtain ⟨b, rfl, rfl⟩ := hcut
  cases b
  rotate_left
  ·as_aux_lemma =>
    go_upto_region 37 with (fail)
    have h9 := HN0.out
    go_meet
    first | exact h9 | exact h9.set _ _ (by decide) | exact (h9.set _ _ (by decide)).set _ _ (by decide) | exact h9.set16 _ _ (by decide) (by first | exact u16_ok _ | exact ⟨by decide, by decide⟩) | exact (h9.set _ _ (by decide)).set16 _ _ (by decide) (by first | exact u16_ok _ | exact ⟨by decide, by decide⟩) | exact (h9.set16 _ _ (by decide) (by first | exact u16_ok _ | exact ⟨by decide, by decide⟩)).set _ _ (by decide) | exact (h9.set16 _ _ (by decide) (by first | exact u16_ok _ | exact ⟨by decide, by decide⟩)).set16 _ _ (by decide) (by first | exact u16_ok _ | exact ⟨by decide, by decide⟩) | exact h9.row 0 0 0 0 0 0 1 ⟨by decide, by decide⟩ ⟨by decide, by decide⟩
  go_upto_region 11 with (fail)
  go_cut [44] (fun sx wx => ∃ b : Bool, sx = .bool b ∧ W0 = wx)
  case first => as_aux_lemma =>
   obtain ⟨y0, hy0⟩ : ∃ x, decide (84 ≤ op) = x := ⟨_, rfl⟩
   obtain ⟨y1, hy1⟩ : ∃ x, decide (op ≤ 87) = x := ⟨_, rfl⟩
   cases y0 <;> (go_wp2_with fail; go_meet; exact ⟨_, rfl, rfl⟩)
  case rest =>
  obtain ⟨b, rfl, rfl⟩ := hcut
  cases b
  rotate_left
  ·as_aux_lemma =>
    go_upto_region 37 with (fail)
    have h9 := HN0.out
    go_meet
    first | exact h9 | exact h9.set _ _ (by decide) | exact (h9.set _ _ (by decide)).set _ _ (by decide) | exact h9.set16 _ _ (by decide) (by first | exact u16_ok _ | exact ⟨by decide, by decide⟩) | exact (h9.set _ _ (by decide)).set16 _ _ (by decide) (by first | exact u16_ok _ | exact ⟨by decide, by decide⟩) | exact (h9.set16 _ _ (by decide) (by first | exact u16_ok _ | exact ⟨by decide, by decide⟩)).set _ _ (by decide) | exact (h9.set16 _ _ (by decide) (by first | exact u16_ok _ | exact ⟨by decide, by decide⟩)).set16 _ _ (by decide) (by first | exact u16_ok _ | exact ⟨by decide, by decide⟩) | exact h9.row 0 0 0 0 0 0 1 ⟨by decide, by decide⟩ ⟨by decide, by decide⟩
  go_upto_region 13 with (fail)
  go_cut [57] (fun sx wx => ∃ b : Bool, sx = .bool b ∧ W0 = wx)
  case first => as_aux_lemma =>
   obtain ⟨y0, hy0⟩ : ∃ x, decide (96 ≤ op) = x := ⟨_, rfl⟩
   obtain ⟨y1, hy1⟩ : ∃ x, decide (op < 128) = x := ⟨_, rfl⟩
   cases y0 <;> (go_wp2_with fail; go_meet; exact ⟨_, rfl, rfl⟩)
  case rest =>
  obtain ⟨b, rfl, rfl⟩ := hcut
  cases b
  rotate_left
  ·as_aux_lemma =>
    go_upto_region 37 with (fail)
    have h9 := HN0.out
    go_meet
    first | exact h9 | exact h9.set _ _ (by decide) | exact (h9.set _ _ (by decide)).set _ _ (by decide) | exact h9.set16 _ _ (by decide) (by first | exact u16_ok _ | exact ⟨by decide, by decide⟩) | exact (h9.set _ _ (by decide)).set16 _ _ (by decide) (by first | exact u16_ok _ | exact ⟨by decide, by decide⟩) | exact (h9.set16 _ _ (by decide) (by first | exact u16_ok _ | exact ⟨by decide, by decide⟩)).set _ _ (by decide) | exact (h9.set16 _ _ (by decide) (by first | exact u16_ok _ | exact ⟨by decide, by decide⟩)).set16 _ _ (by decide) (by first | exact u16_ok _ | exact ⟨by decide, by decide⟩) | exact h9.row 0 0 0 0 0 0 1 ⟨by decide, by decide⟩ ⟨by decide, by decide⟩
  go_upto_region 15 with (fail)
  go_cut [70] (fun sx wx => ∃ b : Bool, sx = .bool b ∧ W0 = wx)
  case first => as_aux_lemma =>
   obtain ⟨y0, hy0⟩ : ∃ x, (op == 128) = x := ⟨_, rfl⟩
   obtain ⟨y1, hy1⟩ : ∃ x, (op == 129) = x := ⟨_, rfl⟩
   obtain ⟨y2, hy2⟩ : ∃ x, (op == 130) = x := ⟨_, rfl⟩
   cases y0 <;> cases y1 <;> (go_wp2_with fail; go_meet; exact ⟨_, rfl, rfl⟩)
  case rest =>
  obtain ⟨b, rfl, rfl⟩ := hcut
  cases b
  rotate_left
  ·as_aux_lemma =>
    go_upto_region 37 with (fail)
    have h9 := HN0.out
    go_meet
    first | exact h9 | exact h9.set _ _ (by decide) | exact (h9.set _ _ (by decide)).set _ _ (by decide) | exact h9.set16 _ _ (by decide) (by first | exact u16_ok _ | exact ⟨by decide, by decide⟩) | exact (h9.set _ _ (by decide)).set16 _ _ (by decide) (by first | exact u16_ok _ | exact ⟨by decide, by decide⟩) | exact (h9.set16 _ _ (by decide) (by first | exact u16_ok _ | exact ⟨by decide, by decide⟩)).set _ _ (by decide) | exact (h9.set16 _ _ (by decide) (by first | exact u16_ok _ | exact ⟨by decide, by decide⟩)).set16 _ _ (by decide) (by first | exact u16_ok _ | exact ⟨by decide, by decide⟩) | exact h9.row 0 0 0 0 0 0 1 ⟨by decide, by decide⟩ ⟨by decide, by decide⟩
  go_upto_region 17 with (fail)
  go_cut [87] (fun sx wx => ∃ b : Bool, sx = .bool b ∧ W0 = wx)
  case first => as_aux_lemma =>
   obtain ⟨y0, hy0⟩ : ∃ x, (op == 131) = x := ⟨_, rfl⟩
   obtain ⟨y1, hy1⟩ : ∃ x, (op == 132) = x := ⟨_, rfl⟩
   cases y0 <;> (go_wp2_with fail; go_meet; exact ⟨_, rfl, rfl⟩)
  case rest =>
  obtain ⟨b, rfl, rfl⟩ := hcut
  cases b
  rotate_left
  ·as_aux_lemma =>
    go_upto_region 37 with (fail)
    have h9 := HN0.out
    go_meet
    first | exact h9 | exact h9.set _ _ (by decide) | exact (h9.set _ _ (by decide)).set _ _ (by decide) | exact h9.set16 _ _ (by decide) (by first | exact u16_ok _ | exact ⟨by decide, by decide⟩) | exact (h9.set _ _ (by decide)).set16 _ _ (by decide) (by first | exact u16_ok _ | exact ⟨by decide, by decide⟩) | exact (h9.set16 _ _ (by decide) (by first | exact u16_ok _ | exact ⟨by decide, by decide⟩)).set _ _ (by decide) | exact (h9.set16 _ _ (by decide) (by first | exact u16_ok _ | exact ⟨by decide, by decide⟩)).set16 _ _ (by decide) (by first | exact u16_ok _ | exact ⟨by decide, by decide⟩) | exact h9.row 0 0 0 0 0 0 1 ⟨by decide, by decide⟩ ⟨by decide, by decide⟩
  go_upto_region 20 with (fail)
  obtain ⟨b, hb⟩ : ∃ x, (op == 133) = x := ⟨_, rfl⟩
  cases b
  rotate_left
  ·as_aux_lemma =>
    go_upto_region 37 with (fail)
    have h9 := HN0.out
    go_meet
    first | exact h9 | exact h9.set _ _ (by decide) | exact (h9.set _ _ (by decide)).set _ _ (by decide) | exact h9.set16 _ _ (by decide) (by first | exact u16_ok _ | exact ⟨by decide, by decide⟩) | exact (h9.set _ _ (by decide)).set16 _ _ (by decide) (by first | exact u16_ok _ | exact ⟨by decide, by decide⟩) | exact (h9.set16 _ _ (by decide) (by first | exact u16_ok _ | exact ⟨by decide, by decide⟩)).set _ _ (by decide) | exact (h9.set16 _ _ (by decide) (by first | exact u16_ok _ | exact ⟨by decide, by decide⟩)).set16 _ _ (by decide) (by first | exact u16_ok _ | exact ⟨by decide, by decide⟩) | exact h9.row 0 0 0 0 0 0 1 ⟨by decide, by decide⟩ ⟨by decide, by decide⟩
  go_upto_region 23 with (fail)
  obtain ⟨b, hb⟩ : ∃ x, (op == 134) = x := ⟨_, rfl⟩
  cases b
  rotate_left
  ·as_aux_lemma =>
    go_upto_region 37 with (fail)
    have h9 := HN0.out
    go_meet
    first | exact h9 | exact h9.set _ _ (by decide) | exact (h9.set _ _ (by decide)).set _ _ (by decide) | exact h9.set16 _ _ (by decide) (by first | exact u16_ok _ | exact ⟨by decide, by decide⟩) | exact (h9.set _ _ (by decide)).set16 _ _ (by decide) (by first | exact u16_ok _ | exact ⟨by decide, by decide⟩) | exact (h9.set16 _ _ (by decide) (by first | exact u16_ok _ | exact ⟨by decide, by decide⟩)).set _ _ (by decide) | exact (h9.set16 _ _ (by decide) (by first | exact u16_ok _ | exact ⟨by decide, by decide⟩)).set16 _ _ (by decide) (by first | exact u16_ok _ | exact ⟨by decide, by decide⟩) | exact h9.row 0 0 0 0 0 0 1 ⟨by decide, by decide⟩ ⟨by decide, by decide⟩
  go_upto_region 26 with (fail)
  go_cut [122] (fun sx wx => ∃ b : Bool, sx = .bool b ∧ W0 = wx)
  case first => as_aux_lemma =>
   obtain ⟨y0, hy0⟩ : ∃ x, (op == 146) = x := ⟨_, rfl⟩
   obtain ⟨y1, hy1⟩ : ∃ x, (op == 147) = x := ⟨_, rfl⟩
   cases y0 <;> (go_wp2_with fail; go_meet; exact ⟨_, rfl, rfl⟩)
  case rest =>
  obtain ⟨b, rfl, rfl⟩ := hcut
  cases b
  rotate_left
  ·as_aux_lemma =>
    go_upto_region 37 with (fail)
    have h9 := HN0.out
    go_meet
    first | exact h9 | exact h9.set _ _ (by decide) | exact (h9.set _ _ (by decide)).set _ _ (by decide) | exact h9.set16 _ _ (by decide) (by first | exact u16_ok _ | exact ⟨by decide, by decide⟩) | exact (h9.set _ _ (by decide)).set16 _ _ (by decide) (by first | exact u16_ok _ | exact ⟨by decide, by decide⟩) | exact (h9.set16 _ _ (by decide) (by first | exact u16_ok _ | exact ⟨by decide, by decide⟩)).set _ _ (by decide) | exact (h9.set16 _ _ (by decide) (by first | exact u16_ok _ | exact ⟨by decide, by decide⟩)).set16 _ _ (by decide) (by first | exact u16_ok _ | exact ⟨by decide, by decide⟩) | exact h9.row 0 0 0 0 0 0 1 ⟨by decide, by decide⟩ ⟨by decide, by decide⟩
  go_upto_region 29 with (fail)
  go_cut [134] (fun sx wx => ∃ b : Bool, sx = .bool b ∧ W0 = wx)
  case first => as_aux_lemma =>
   obtain ⟨y0, hy0⟩ : ∃ x, (op == 160) = x := ⟨_, rfl⟩
   obtain ⟨y1, hy1⟩ : ∃ x, (op == 161) = x := ⟨_, rfl⟩
   cases y0 <;> (go_wp2_with fail; go_meet; exact ⟨_, rfl, rfl⟩)
  case rest =>
  obtain ⟨b, rfl, rfl⟩ := hcut
  cases b
  rotate_left
  ·as_aux_lemma =>
    go_upto_region 37 with (fail)
    have h9 := HN0.out
    go_meet
    first | exact h9 | exact h9.set _ _ (by decide) | exact (h9.set _ _ (by decide)).set _ _ (by decide) | exact h9.set16 _ _ (by decide) (by first | exact u16_ok _ | exact ⟨by decide, by decide⟩) | exact (h9.set _ _ (by decide)).set16 _ _ (by decide) (by first | exact u16_ok _ | exact ⟨by decide, by decide⟩) | exact (h9.set16 _ _ (by decide) (by first | exact u16_ok _ | exact ⟨by decide, by decide⟩)).set _ _ (by decide) | exact (h9.set16 _ _ (by decide) (by first | exact u16_ok _ | exact ⟨by decide, by decide⟩)).set16 _ _ (by decide) (by first | exact u16_ok _ | exact ⟨by decide, by decide⟩) | exact h9.row 0 0 0 0 0 0 1 ⟨by decide, by decide⟩ ⟨by decide, by decide⟩
  go_upto_region 31 with (fail)
  go_cut [146] (fun sx wx => ∃ b : Bool, sx = .bool b ∧ W0 = wx)
  case first => as_aux_lemma =>
   obtain ⟨y0, hy0⟩ : ∃ x, (op == 162) = x := ⟨_, rfl⟩
   obtain ⟨y1, hy1⟩ : ∃ x, (op == 163) = x := ⟨_, rfl⟩
   cases y0 <;> (go_wp2_with fail; go_meet; exact ⟨_, rfl, rfl⟩)
  case rest =>
  obtain ⟨b, rfl, rfl⟩ := hcut
  cases b
  rotate_left
  ·as_aux_lemma =>
    go_upto_region 37 with (fail)
    have h9 := HN0.out
    go_meet
    first | exact h9 | exact h9.set _ _ (by decide) | exact (h9.set _ _ (by decide)).set _ _ (by decide) | exact h9.set16 _ _ (by decide) (by first | exact u16_ok _ | exact ⟨by decide, by decide⟩) | exact (h9.set _ _ (by decide)).set16 _ _ (by decide) (by first | exact u16_ok _ | exact ⟨by decide, by decide⟩) | exact (h9.set16 _ _ (by decide) (by first | exact u16_ok _ | exact ⟨by decide, by decide⟩)).set _ _ (by decide) | exact (h9.set16 _ _ (by decide) (by first | exact u16_ok _ | exact ⟨by decide, by decide⟩)).set16 _ _ (by decide) (by first | exact u16_ok _ | exact ⟨by decide, by decide⟩) | exact h9.row 0 0 0 0 0 0 1 ⟨by decide, by decide⟩ ⟨by decide, by decide⟩
  go_upto_region 33 with (fail)
  go_cut [159] (fun sx wx => ∃ b : Bool, sx = .bool b ∧ W0 = wx)
  case first => as_aux_lemma =>
   obtain ⟨y0, hy0⟩ : ∃ x, (op == 21) = x := ⟨_, rfl⟩
   obtain ⟨y1, hy1⟩ : ∃ x, (op == 20) = x := ⟨_, rfl⟩
   cases y0 <;> (go_wp2_with fail; go_meet; exact ⟨_, rfl, rfl⟩)
  case rest =>
  obtain ⟨b, rfl, rfl⟩ := hcut
  cases b
  rotate_left
  ·as_aux_lemma =>
    go_upto_region 37 with (fail)
    have h9 := HN0.out
    go_meet
    first | exact h9 | exact h9.set _ _ (by decide) | exact (h9.set _ _ (by decide)).set _ _ (by decide) | exact h9.set16 _ _ (by decide) (by first | exact u16_ok _ | exact ⟨by decide, by decide⟩) | exact (h9.set _ _ (by decide)).set16 _ _ (by decide) (by first | exact u16_ok _ | exact ⟨by decide, by decide⟩) | exact (h9.set16 _ _ (by decide) (by first | exact u16_ok _ | exact ⟨by decide, by decide⟩)).set _ _ (by decide) | exact (h9.set16 _ _ (by decide) (by first | exact u16_ok _ | exact ⟨by decide, by decide⟩)).set16 _ _ (by decide) (by first | exact u16_ok _ | exact ⟨by decide, by decide⟩) | exact h9.row 0 0 0 0 0 0 1 ⟨by decide, by decide⟩ ⟨by decide, by decide⟩
  go_upto_region 35 with (fail)
  go_cut [171] (fun sx wx => ∃ b : Bool, sx = .bool b ∧ W0 = wx)
  case first => as_aux_lemma =>
   obtain ⟨y0, hy0⟩ : ∃ x, (op == 2) = x := ⟨_, rfl⟩
   obtain ⟨y1, hy1⟩ : ∃ x, (op == 3) = x := ⟨_, rfl⟩
   cases y0 <;> (go_wp2_with fail; go_meet; exact ⟨_, rfl, rfl⟩)
  case rest =>
  obtain ⟨b, rfl, rfl⟩ := hcut
  cases b
  rotate_left
  ·as_aux_lemma =>
    go_upto_region 37 with (refine wpList_store_row 26 _ _ rfl rfl w.heap.size rfl #[.int .i64 0, .int .i64 0, .int .i64 0, .int .u16 0, .int .u16 0, .int .i64 0, .int .i64 1] rfl HBB.out vinfo26 rfl (by simp [Value.oneCell']) ?_)
    have h9 := HN0.out
    go_meet
    exact h9.row 0 0 0 0 0 0 1 ⟨by decide, by decide⟩ ⟨by decide, by decide⟩
  go_upto_region 37 with (fail)
  have h9 := HN0.out
  go_meet
  exact h9
 case rest =>
 have HN1 := Lib.hid hcut
 clear hcut c0 c1 c2 c3 c4 c5 c6 z0 z1 z2 z3 z4 z5 HBB
 obtain ⟨op, d, s, imm, aux, bank, size, _, _, hb, ⟨c0, c1, c2, c3, c4, c5, c6⟩, z0, z1, z2, z3, z4, z5⟩ := HN1.out.cells
 clear hb
 obtain ⟨b6, hb6⟩ : ∃ b, (d == 6) = b := ⟨_, rfl⟩
 obtain ⟨b5, hb5⟩ : ∃ b, (d == 5) = b := ⟨_, rfl⟩
 cases b6 <;> cases b5
 rotate_left
 all_goals go_upto_region 39 with (fail)
 rotate_right
 ·clear c0 c1 c2 c3 c4 c5 c6 z0 z1 z2 z3 z4 z5
  obtain ⟨op, d, s, imm, aux, bank, size, hi, ha, hb, _, _⟩ := HN1.out.cells
  have HII := Lib.hid hi
  have HAA := Lib.hid ha
  have HBB := Lib.hid hb
  clear hi ha hb
  go_wp2_with (first | refine wpList_load_row 26 _ rfl rfl (w.heap.size) rfl #[.int .i64 op, .int .i64 d, .int .i64 s, .int .u16 imm, .int .u16 aux, .int .i64 bank, .int .i64 size] HBB.out Try.underlying26 vinfo26 ?_ | (refine wpList_store_row 26 _ _ rfl rfl (w.heap.size + 1) rfl #[.int .i64 op, .int .i64 d, .int .i64 s, .int .u16 imm, .int .u16 aux, .int .i64 bank, .int .i64 size] rfl HN1.out.res vinfo26 rfl (by simp [Value.oneCell']) ?_; refine Hid.out ?_))
  generalize e9 : World.setRow _ _ _ = W9
  have HX9 := Lib.hid (show W9.heap[w.heap.size + 1]? = some (.cells #[.int .i64 op, .int .i64 d, .int .i64 s, .int .u16 imm, .int .u16 aux, .int .i64 bank, .int .i64 size] 26 (0, 0)) from e9 ▸ setRow_heap _ _ _ _ _ _ HN1.out.res)
  have HB9 := Lib.hid (show Below w.heap.size w W9 from e9 ▸ setRow_below HN1.out.bel HN1.out.lowR)
  refine Lib.hid ?_
  clear e9
  go_wp2_with fail
  exact bodyPost_ret (v := .agg #[.int .i64 op, .int .i64 d, .int .i64 s, .int .u16 imm, .int .u16 aux, .int .i64 bank, .int .i64 size]) (row_result rfl _ _ (w.heap.size + 1) _ 26 rfl HX9.out Try.underlying26 vinfo26) rfl ⟨op, d, s, imm, aux, bank, size, HII.out, HAA.out, rfl, HB9.out⟩
 all_goals
  generalize e2 : World.setCell _ _ _ = W2
  have HN2 : Hid (InsW w W2 w.heap.size (w.heap.size + 1)) := Lib.hid (e2 ▸ HN1.out.set 1 4 (by decide))
  clear e2 c0 c1 c2 c3 c4 c5 c6 z0 z1 z2 z3 z4 z5
  obtain ⟨op, d, s, imm, aux, bank, size, hi, ha, hb, _, _⟩ := HN2.out.cells
  have HII := Lib.hid hi
  have HAA := Lib.hid ha
  have HBB := Lib.hid hb
  clear hi ha hb
  go_wp2_with (first | refine wpList_load_row 26 _ rfl rfl (w.heap.size) rfl #[.int .i64 op, .int .i64 d, .int .i64 s, .int .u16 imm, .int .u16 aux, .int .i64 bank, .int .i64 size] HBB.out Try.underlying26 vinfo26 ?_ | (refine wpList_store_row 26 _ _ rfl rfl (w.heap.size + 1) rfl #[.int .i64 op, .int .i64 d, .int .i64 s, .int .u16 imm, .int .u16 aux, .int .i64 bank, .int .i64 size] rfl HN2.out.res vinfo26 rfl (by simp [Value.oneCell']) ?_; refine Hid.out ?_))
  generalize e9 : World.setRow _ _ _ = W9
  have HX9 := Lib.hid (show W9.heap[w.heap.size + 1]? = some (.cells #[.int .i64 op, .int .i64 d, .int .i64 s, .int .u16 imm, .int .u16 aux, .int .i64 bank, .int .i64 size] 26 (0, 0)) from e9 ▸ setRow_heap _ _ _ _ _ _ HN2.out.res)
  have HB9 := Lib.hid (show Below w.heap.size w W9 from e9 ▸ setRow_below HN2.out.bel HN2.out.lowR)
  refine Lib.hid ?_
  clear e9
  go_wp2_with fail
  exact bodyPost_ret (v := .agg #[.int .i64 op, .int .i64 d, .int .i64 s, .int .u16 imm, .int .u16 aux, .int .i64 bank, .int .i64 size]) (row_result rfl _ _ (w.heap.size + 1) _ 26 rfl HX9.out Try.underlying26 vinfo26) rfl ⟨op, d, s, imm, aux, bank, size, HII.out, HAA.out, rfl, HB9.out⟩
end Go.Proofs.Ytieaicdihingkaa
