/- Fill and Code: they give some string. -/
import Derived.Test.YtieaicdihingkaaV2
import Derived.Test.YtieaicdihingkaaV5
import Derived.Test.YtieaicdihingkaaK26
namespace Go.Proofs.Ytieaicdihingkaa
set_option linter.unusedVariables false
set_option linter.unusedSimpArgs false
open Go.RowKit
structure FillIn (w wr : World) (n : Nat) : Prop where
 row : ∃ (cur : Array Value) (f : Nat → Int), wr.heap[w.heap.size]? = some (.cells cur 5 (0, 0)) ∧ cur.size = n ∧ ∀ j, j < n → cur[j]? = some (.int .u8 (f j)) ∧ 0 ≤ f j ∧ f j < 256
 below : Below w.heap.size w wr
theorem FillIn.step {w wr : World} {n : Nat} (h : FillIn w wr n) (k : Nat) (x : Int) (hx : 0 ≤ x ∧ x < 256) : FillIn w (wr.setCell ⟨w.heap.size, k, none⟩ (.int .u8 x)) n := by
 obtain ⟨cur, f, h1, h2, h3⟩ := h.row
 refine ⟨⟨cur.setIfInBounds k (.int .u8 x), fun j => if j = k then x else f j, setCell_blk h1, by simpa using h2, fun j hj => ?_⟩, h.below.setCell (p := ⟨w.heap.size, k, none⟩) (Nat.le_refl _) _⟩
 rw [Array.getElem?_setIfInBounds]
 by_cases e : k = j
 ·subst e
  rw [if_pos rfl, if_pos (by omega)]
  dsimp only
  rw [if_pos rfl]
  exact ⟨rfl, hx⟩
 ·rw [if_neg e]
  dsimp only
  rw [if_neg (fun h => e h.symm)]
  exact h3 j hj
theorem FillIn.conv {w wr : World} {n : Nat} (h : FillIn w wr n) : ∃ S : ByteArray, (convert 49 9 (.slice (some ⟨w.heap.size, 0, none⟩) n n)).run Try.prog wr = .ok (.string S) wr ∧ S.size = n := by
 obtain ⟨cur, f, h1, h2, h3⟩ := h.row
 refine ⟨_, ram_conv n f w.heap.size wr fun j hj => ⟨by rw [Lib.cell_of_heap h1]; exact (h3 j hj).1, (h3 j hj).2⟩, ?_⟩
 show (ramL f n).toArray.size = n
 unfold ramL
 simp
theorem wpList_make_n {ops : Array Oper} {rest : List Oper} {o : Oper} {a : Act} {Q : Exit → Act → World → Prop} {W : World} {Z : Array Value} {n : Nat} (x : Operand) (hgd : o.guard = none) (ho : o.op = .makeSlice 49 x x) (hx : a.eval x = .int .i64 (n : Int))
  (hr : (Instr.makeSlice 49 (.int .i64 (n : Int)) (.int .i64 (n : Int))).run Try.prog W = .ok (.slice (some ⟨W.heap.size, 0, none⟩) n n) (W.alloc (.cells Z 5))) (h : wpList Try.prog ops Q rest (a.put o.dst (.slice (some ⟨W.heap.size, 0, none⟩) n n)) (W.alloc (.cells Z 5))) : wpList Try.prog ops Q (o :: rest) a W := by
 refine wpList_plain hgd fun K hK => ?_
 unfold Oper.wp execOp
 simp only [ho, hx, Sem.run_bind, Sem.run_pure, Result.andThen_ok, hr]
 exact hK _ _ h
def StrPost (w : World) (n : Nat) (e : Ending) (w' : World) : Prop := ∃ S : ByteArray, e = .returned (.string S) ∧ S.size = n ∧ Below w.heap.size w w'
set_option maxRecDepth 8000 in
set_option maxHeartbeats 4000000 in
theorem fill_some (seed : Int) (n : Nat) (w : World) (h0 : 0 ≤ seed) (h1 : seed < 4294967296) (hn : n ≤ 100000) : Calls Try.prog 23 #[.int .u32 seed, .int .i64 (n : Int)] w (StrPost w n) := by
 obtain ⟨Z, hZs, hZ, hmk⟩ := make_bytes n hn
 have HMK : Hid (∀ W : World, (Instr.makeSlice 49 (.int .i64 (n : Int)) (.int .i64 (n : Int))).run Try.prog W = .ok (.slice (some ⟨W.heap.size, 0, none⟩) n n) (W.alloc (.cells Z 5))) := Lib.hid hmk
 have HP0 : Hid (FillIn w (w.alloc (.cells Z 5)) n) := Lib.hid ⟨⟨Z, fun _ => 0, alloc_at w _, hZs, fun j hj => ⟨by rw [← Array.getElem?_toList, hZ j hj], Int.le_refl 0, (by decide : (0 : Int) < 256)⟩⟩, below1 w _⟩
 have H01 := Lib.hid (And.intro h0 h1)
 have HN := Lib.hid hn
 clear hZs hZ hmk h0 h1 hn
 go_enter Try.func23, Try.ntmps23
 go_wp2_with (refine wpList_make_n _ rfl rfl rfl (HMK.out _) ?_)
 generalize w.alloc _ = W0 at *
 clear HMK
 go_loopw [0, 6] (fun s_ i_ wr => ∃ (k : Nat) (sd : Int), i_ = .int .i64 (k : Int) ∧ k ≤ n ∧ s_ = .int .u32 sd ∧ (0 ≤ sd ∧ sd < 4294967296) ∧ FillIn w wr n) (fun _ i_ _ => n - (intOf i_).toNat)
 case atStart => exact ⟨0, seed, rfl, Nat.zero_le _, rfl, H01.out, HP0.out⟩
 case round =>
  obtain ⟨k, sd, rfl, hk, rfl, hsd, hp⟩ := hrel
  have HP := Lib.hid hp
  have x2 : IntKind.i64.wrap ((k : Int) + 1) = (k : Int) + 1 := IntWalk.i64_in _ (by have := HN.out; omega)
  clear hp
  by_cases h1 : k < n
  ·have b1 : decide ((k : Int) < (n : Int)) = true := decide_eq_true (by omega)
   have b3 : decide (k < n) = true := decide_eq_true h1
   obtain ⟨s1, hs1, hs1b⟩ : ∃ s1, IntKind.u32.wrap (IntKind.u32.wrap (sd * 1664525) + 1013904223) = s1 ∧ 0 ≤ s1 ∧ s1 < 4294967296 := ⟨_, rfl, by rw [IntKind.wrap_u32]; omega⟩
   obtain ⟨m1, hm1⟩ : ∃ m1, IntKind.u32.wrap (sd * 1664525) = m1 := ⟨_, rfl⟩
   rw [hm1] at hs1
   have y0 : (0 : Int) ≤ s1 := hs1b.1
   have y1 : s1 < 4294967296 := hs1b.2
   obtain ⟨x, hx⟩ : ∃ x, s1 / 16777216 = x := ⟨_, rfl⟩
   have hx0 : s1.tdiv 16777216 = x := by rw [Int.tdiv_eq_ediv_of_nonneg y0]; exact hx
   have hx1 : IntKind.u32.wrap x = x := by rw [IntKind.wrap_u32]; omega
   have hx2 : IntKind.u8.wrap x = x := by rw [IntKind.wrap_u8]; omega
   have HX : Hid (0 ≤ x ∧ x < 256) := Lib.hid (by omega)
   obtain ⟨cur, f, hc1, hc2, hc3⟩ := HP.out.row
   have cc : wr.cell? ⟨w.heap.size, k, none⟩ = some (.int .u8 (f k)) := by
    rw [Lib.cell_of_heap hc1]; exact (hc3 _ h1).1
   have zz : wr.frozen? ⟨w.heap.size, k, none⟩ = false := by unfold World.frozen?; rw [hc1]; simp
   have i1 : (0 : Int) ≤ (k : Int) := by omega
   have i2 : (k : Int) < (n : Int) := by omega
   have HP2 := Lib.hid (HP.out.step k x HX.out)
   have HH1 := Lib.hid h1
   have HS1 := Lib.hid hs1b
   clear hc1 hc2 hc3 hk hsd hs1b
   go_wp2_with fail
   go_roundw
   case rel => exact ⟨k + 1, s1, by go_num, HH1.out, rfl, HS1.out, HP2.out⟩
   case measure => have := HH1.out; simp only [intOf]; omega
  ·obtain rfl : k = n := by omega
   have b1 : decide ((k : Int) < (k : Int)) = false := decide_eq_false (by omega)
   have b3 : decide (k < k) = false := decide_eq_false (by omega)
   obtain ⟨S, hcv, hS⟩ := HP.out.conv
   have HBE := Lib.hid HP.out.below
   have HS := Lib.hid hS
   clear hk hsd h1 hS
   go_wp2_with fail
   exact bodyPost_ret (v := .string S) (by simp [results, Try.results23, go_sem]) rfl ⟨S, rfl, HS.out, HBE.out⟩
def InsV (v : Value) (V : World) : Prop := ∃ op d s imm aux bank size : Int, OkU16 imm ∧ OkU16 aux ∧ v = .agg #[.int .i64 op, .int .i64 d, .int .i64 s, .int .u16 imm, .int .u16 aux, .int .i64 bank, .int .i64 size]
def EncV (v : Value) (V : World) : Prop := ∃ (S : ByteArray) (c : Int), v = .tuple #[.string S, .int .i64 c] ∧ S.size ≤ 7
def StrV (v : Value) (V : World) : Prop := ∃ S : ByteArray, v = .string S ∧ S.size ≤ 7
def IntV (v : Value) (V : World) : Prop := ∃ c : Int, v = .int .i64 c
/-- Rows of five numbers. -/
def FivesAt (b : Nat) (w : World) (p : Option Addr) (n : Nat) : Prop := n = 0 ∨ ∃ B off, p = some ⟨B, off, none⟩ ∧ B < b ∧ ∀ k, k < n → ∃ q0 q1 q2 q3 q4 : Int, w.cell? ⟨B, off + k * 5, none⟩ = some (.int .i64 q0) ∧ w.cell? ⟨B, off + k * 5 + 1, none⟩ = some (.int .i64 q1) ∧ w.cell? ⟨B, off + k * 5 + 2, none⟩ = some (.int .i64 q2) ∧ w.cell? ⟨B, off + k * 5 + 3, none⟩ = some (.int .i64 q3) ∧ w.cell? ⟨B, off + k * 5 + 4, none⟩ = some (.int .i64 q4)
theorem FivesAt.next {b : Nat} {w W : World} {p : Option Addr} {n : Nat} (h : FivesAt b w p n) (hb : Below b w W) : FivesAt b W p n := by
 rcases h with h | ⟨B, off, e, hB, hc⟩
 ·exact .inl h
 ·refine .inr ⟨B, off, e, hB, fun k hk => ?_⟩
  obtain ⟨q0, q1, q2, q3, q4, c0, c1, c2, c3, c4⟩ := hc k hk
  have hx : ∀ j, W.cell? ⟨B, j, none⟩ = w.cell? ⟨B, j, none⟩ := fun j => hb.cell (p := ⟨B, j, none⟩) hB
  exact ⟨q0, q1, q2, q3, q4, (hx _).trans c0, (hx _).trans c1, (hx _).trans c2, (hx _).trans c3, (hx _).trans c4⟩
def CodePost9 (w : World) (e : Ending) (w' : World) : Prop := ∃ S : ByteArray, e = .returned (.string S) ∧ S.size ≤ 280 ∧ Below w.heap.size w w'
set_option maxRecDepth 8000 in
set_option maxHeartbeats 4000000 in
theorem code_some (p : Option Addr) (n cap : Nat) (w : World) (hp : FivesAt w.heap.size w p n) (hn : n ≤ 60) : Calls Try.prog 57 #[.slice p n cap, .int .i64 40] w (CodePost9 w) := by
 have HP := Lib.hid hp
 have HN := Lib.hid hn
 clear hp hn
 go_enter Try.func57, Try.ntmps57
 go_wp2_with fail
 go_loopw [5, 6] (fun s_ i_ wr => ∃ (k : Nat) (S : ByteArray), i_ = .int .i64 (k : Int) ∧ k ≤ n ∧ k ≤ 40 ∧ s_ = .string S ∧ S.size ≤ 7 * k ∧ Below w.heap.size w wr) (fun _ i_ _ => n - (intOf i_).toNat)
 case atStart => exact ⟨0, ⟨#[]⟩, rfl, Nat.zero_le _, Nat.zero_le _, rfl, Nat.zero_le _, Below.refl _ _⟩
 case round =>
  obtain ⟨k, S, rfl, hk, hk4, rfl, hS, hb⟩ := hrel
  have HK4 := Lib.hid hk4
  have HS := Lib.hid hS
  have HB := Lib.hid hb
  have x2 : IntKind.i64.wrap ((k : Int) + 1) = (k : Int) + 1 := IntWalk.i64_in _ (by omega)
  clear hb hS
  by_cases h1 : k < n
  ·have b1 : decide ((k : Int) < (n : Int)) = true := decide_eq_true (by omega)
   have b3 : decide (k < n) = true := decide_eq_true h1
   by_cases h2 : k < 40
   ·have b2 : decide ((k : Int) < 40) = true := decide_eq_true (by omega)
    have b4 : decide (k < 40) = true := decide_eq_true h2
    obtain ⟨B, off, rfl, hB, hc⟩ := HP.out.resolve_left (by omega)
    obtain ⟨q0, q1, q2, q3, q4, c0, c1, c2, c3, c4⟩ := hc k h1
    have i1 : (0 : Int) ≤ (k : Int) := by omega
    have i2 : (k : Int) < (n : Int) := by omega
    have HH1 := Lib.hid h1
    have HH2 := Lib.hid h2
    have HQ : Hid (∀ W, Below wr.heap.size wr W → W.cell? ⟨B, off + k * 5, none⟩ = some (.int .i64 q0) ∧ W.cell? ⟨B, off + k * 5 + 1, none⟩ = some (.int .i64 q1) ∧ W.cell? ⟨B, off + k * 5 + 2, none⟩ = some (.int .i64 q2) ∧ W.cell? ⟨B, off + k * 5 + 3, none⟩ = some (.int .i64 q3) ∧ W.cell? ⟨B, off + k * 5 + 4, none⟩ = some (.int .i64 q4)) := Lib.hid fun W hW => by
     have hx : ∀ j, W.cell? ⟨B, j, none⟩ = w.cell? ⟨B, j, none⟩ := fun j => (below_next HB.out hW).cell (p := ⟨B, j, none⟩) hB
     exact ⟨(hx _).trans c0, (hx _).trans c1, (hx _).trans c2, (hx _).trans c3, (hx _).trans c4⟩
    clear c0 c1 c2 c3 c4 hc hk hk4 h1 h2
    go_upto_region 5 with (fail)
    refine' wp_region_flowR [[], [], [(21, 0), (22, 1)], [(23, 2)], [(24, 3)], [], [], [(26, 5), (27, 6)], [(28, 7)], [(29, 8)], [(25, 4), (30, 9)], [(31, 10)], [(32, 11)], [(20, 12)], [(20, 12)], [(33, 13)], [(21, 0), (22, 1), (23, 2), (24, 3), (25, 4), (26, 5), (27, 6), (28, 7), (29, 8), (30, 9), (31, 10), (32, 11), (20, 12), (33, 13), (34, 14), (7, 15)]] (relL [eqV _, eqV _, eqV _, eqV _, InsV, eqV _, eqV _, eqV _, eqV _, eqV _, InsV, EncV, EncV, StrV, IntV, StrV, IntV]) (by kernel_rfl) (by kernel_rfl) ?_
    rotate_left 9
    iterate 4
     refine FlowR.step ?_ ?_
     ·intro V3 hV
      simp only [Dep, lQ]
      repeat rintro _ ⟨_, rfl, _⟩
      intro K hK
      obtain ⟨c0, c1, c2, c3, c4⟩ := HQ.out _ hV
      go_simp
      refine hK _ _ ?_ (Below.refl _ _)
      simp only [lR]
      exact rfl
    refine FlowR.step ?_ ?_
    ·intro V3 hV
     simp only [Dep, lQ]
     rintro x24 ⟨V24, rfl, hb24⟩
     intro K hK
     obtain ⟨c0, c1, c2, c3, c4⟩ := HQ.out _ hV
     go_simp
     go_at_call 70
     refine (made_some _ _ _ _ _ _).mono ?_
     rintro e w9 ⟨op, d, s, imm, aux, bank, size, hi, ha, rfl, h9⟩
     exact hK _ _ ⟨op, d, s, imm, aux, bank, size, hi, ha, rfl⟩ h9
    iterate 5
     refine FlowR.step ?_ ?_
     ·intro V3 hV
      simp only [Dep, lQ]
      repeat rintro _ ⟨_, rfl, _⟩
      intro K hK
      obtain ⟨c0, c1, c2, c3, c4⟩ := HQ.out _ hV
      go_simp
      refine hK _ _ ?_ (Below.refl _ _)
      simp only [lR]
      exact rfl
    refine FlowR.step ?_ ?_
    ·intro V3 hV
     simp only [Dep, lQ]
     rintro x25 ⟨V25, ⟨op, d, s, imm, aux, bank, size, hi, ha, rfl⟩, hb25⟩
     rintro x30 ⟨V30, rfl, hb30⟩
     intro K hK
     obtain ⟨c0, c1, c2, c3, c4⟩ := HQ.out _ hV
     go_simp
     go_at_call 69
     refine (tame_some _ _ _ _ _ _ _ _ _ hi ha).mono ?_
     rintro e w9 ⟨op, d, s, imm, aux, bank, size, hi, ha, rfl, h9⟩
     exact hK _ _ ⟨op, d, s, imm, aux, bank, size, hi, ha, rfl⟩ h9
    refine FlowR.step ?_ ?_
    ·intro V3 hV
     simp only [Dep, lQ]
     rintro x31 ⟨V31, ⟨op, d, s, imm, aux, bank, size, hi, ha, rfl⟩, hb31⟩
     intro K hK
     obtain ⟨c0, c1, c2, c3, c4⟩ := HQ.out _ hV
     go_simp
     go_at_call 11
     refine (encode_some _ _ _ _ _ _ _ _ hi ha).mono ?_
     rintro e w9 ⟨S, c, rfl, hS, h9⟩
     exact hK _ _ ⟨S, c, rfl, hS⟩ h9
    refine FlowR.step ?_ ?_
    ·intro V3 hV
     simp only [Dep, lQ]
     rintro x32 ⟨V32, ⟨S, c, rfl, hS⟩, hb32⟩
     intro K hK
     obtain ⟨c0, c1, c2, c3, c4⟩ := HQ.out _ hV
     go_simp
     exact hK _ _ ⟨S, c, rfl, hS⟩ (Below.refl _ _)
    refine FlowR.step ?_ ?_
    ·intro V3 hV
     simp only [Dep, lQ]
     rintro x20 ⟨V20, ⟨S, c, rfl, hS⟩, hb20⟩
     intro K hK
     obtain ⟨c0, c1, c2, c3, c4⟩ := HQ.out _ hV
     go_simp
     exact hK _ _ ⟨S, rfl, hS⟩ (Below.refl _ _)
    refine FlowR.step ?_ ?_
    ·intro V3 hV
     simp only [Dep, lQ]
     rintro x20 ⟨V20, ⟨S, c, rfl, hS⟩, hb20⟩
     intro K hK
     obtain ⟨c0, c1, c2, c3, c4⟩ := HQ.out _ hV
     go_simp
     exact hK _ _ ⟨c, rfl⟩ (Below.refl _ _)
    refine FlowR.step ?_ ?_
    ·intro V3 hV
     simp only [Dep, lQ]
     rintro x33 ⟨V33, ⟨S, rfl, hS⟩, hb33⟩
     intro K hK
     obtain ⟨c0, c1, c2, c3, c4⟩ := HQ.out _ hV
     go_simp
     exact hK _ _ ⟨S, rfl, hS⟩ (Below.refl _ _)
    refine FlowR.last ?_
    intro V3 hV
    simp only [Dep, lQ]
    rintro x21 ⟨V21, rfl, hb21⟩
    rintro x22 ⟨V22, rfl, hb22⟩
    rintro x23 ⟨V23, rfl, hb23⟩
    rintro x24 ⟨V24, rfl, hb24⟩
    rintro x25 ⟨V25, ⟨op25, d25, s25, imm25, aux25, bank25, size25, hi25, ha25, rfl⟩, hb25⟩
    rintro x26 ⟨V26, rfl, hb26⟩
    rintro x27 ⟨V27, rfl, hb27⟩
    rintro x28 ⟨V28, rfl, hb28⟩
    rintro x29 ⟨V29, rfl, hb29⟩
    rintro x30 ⟨V30, rfl, hb30⟩
    rintro x31 ⟨V31, ⟨op31, d31, s31, imm31, aux31, bank31, size31, hi31, ha31, rfl⟩, hb31⟩
    rintro x32 ⟨V32, ⟨S32, c32, rfl, hS32⟩, hb32⟩
    rintro x20 ⟨V20, ⟨S20, c20, rfl, hS20⟩, hb20⟩
    rintro x33 ⟨V33, ⟨S33, rfl, hS33⟩, hb33⟩
    rintro x34 ⟨V34, ⟨c9, rfl⟩, hb34⟩
    rintro x7 ⟨V7, ⟨T, rfl, hT⟩, hb7⟩
    intro K hK
    go_simp
    refine hK _ _ ?_
    have HB3 := Lib.hid (below_next HB.out hV)
    have HT := Lib.hid hT
    have t1 : (S ++ T : ByteArray).size = S.size + T.size := ByteArray.size_append
    have z1 : ¬ 9223372036854775807 < S.size + T.size := by have := HS.out; have := HK4.out; omega
    clear hK hV hi25 ha25 hi31 ha31 hS32 hS20 hS33 hT
    go_wp2_with fail
    go_roundw
    case rel => exact ⟨k + 1, S ++ T, by go_num, HH1.out, HH2.out, rfl, by have := HS.out; have := HT.out; rw [ByteArray.size_append]; omega, HB3.out⟩
    case measure => have := HH1.out; simp only [intOf]; omega
   ·have b2 : decide ((k : Int) < 40) = false := decide_eq_false (by omega)
    have b4 : decide (k < 40) = false := decide_eq_false h2
    have HZ : Hid (S.size ≤ 280) := Lib.hid (by have := HS.out; have := HK4.out; omega)
    go_wp2_with fail
    exact bodyPost_ret (v := .string S) (by simp [results, Try.results57, go_sem]) rfl ⟨S, rfl, HZ.out, HB.out⟩
  ·have b1 : decide ((k : Int) < (n : Int)) = false := decide_eq_false (by omega)
   have b3 : decide (k < n) = false := decide_eq_false h1
   have HZ : Hid (S.size ≤ 280) := Lib.hid (by have := HS.out; have := HK4.out; omega)
   go_wp2_with fail
   exact bodyPost_ret (v := .string S) (by simp [results, Try.results57, go_sem]) rfl ⟨S, rfl, HZ.out, HB.out⟩
end Go.Proofs.Ytieaicdihingkaa
