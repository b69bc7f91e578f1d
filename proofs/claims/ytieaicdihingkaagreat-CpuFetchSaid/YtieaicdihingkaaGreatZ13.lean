/- The reference's fields of an instruction. -/
import Derived.Test.YtieaicdihingkaaGreatZ8
import Derived.Test.YtieaicdihingkaaGreatV1
namespace Go.Proofs.YtieaicdihingkaaGreat
set_option linter.unusedVariables false
set_option linter.unusedSimpArgs false
open Go.RowKit
theorem extend_z (c : Int) (w : World) (h0 : 0 ≤ c) (h1 : c < 256) : Calls Tryz.prog 101 #[.int .u8 c] w fun e w' => e = .returned (.int .u16 (extI c)) ∧ w = w' := by
 have x1 : IntKind.u16.wrap c = c := by rw [IntKind.wrap_u16]; omega
 have x2 : IntKind.u16.wrap (65280 + c) = 65280 + c ∨ ¬ (128 ≤ c) := by rw [IntKind.wrap_u16]; omega
 by_cases h : c < 128
 ·have hr : extI c = c := if_pos h
  rw [hr]
  have d0 : decide (c < (128 : Int)) = true := decide_eq_true h
  clear h hr x2
  go_enter Tryz.func101, Tryz.ntmps101
  go_wp2_with fail
  go_ret
  exact ⟨rfl, rfl⟩
 ·have hr : extI c = 65280 + c := by unfold extI; rw [if_neg h]; omega
  rw [hr]
  have d0 : decide (c < (128 : Int)) = false := decide_eq_false h
  have x3 : IntKind.u16.wrap (65280 + c) = 65280 + c := by rw [IntKind.wrap_u16]; omega
  clear h hr x2
  go_enter Tryz.func101, Tryz.ntmps101
  go_wp2_with fail
  go_ret
  exact ⟨rfl, rfl⟩
set_option maxRecDepth 20000 in
set_option maxHeartbeats 4000000 in
theorem word_z (s : ByteArray) (k : Nat) (w : World) (hk : k + 1 < s.size) (hm : k < 1000) : Calls Tryz.prog 102 #[.string s, .int .i64 (k : Int)] w fun e w' => e = .returned (.int .u16 (wordI s k)) ∧ Below w.heap.size w w' := by
 obtain ⟨x, hx⟩ : ∃ x, wordI s k = x := ⟨_, rfl⟩
 rw [hx]
 obtain ⟨k2, hk2⟩ : ∃ k2, k2 = k + 1 := ⟨_, rfl⟩
 unfold wordI at hx
 rw [← hk2] at hk hx
 have hb := byteI_bd s k
 have hb1 := byteI_bd s k2
 have l0 : k < s.size := by omega
 have a0 := byteI_at s k l0
 have a1 := byteI_at s k2 hk
 have w1 : IntKind.i64.wrap ((k : Int) + 1) = (k2 : Int) := by rw [IntWalk.i64_in _ (by omega)]; omega
 have t1 : ((k2 : Int)).toNat = k2 := Int.toNat_natCast _
 have i0 : (0 : Int) ≤ (k : Int) := by omega
 have i1 : (k : Int) < (s.size : Int) := by omega
 have i2 : (0 : Int) ≤ (k2 : Int) := by omega
 have i3 : (k2 : Int) < (s.size : Int) := by omega
 obtain ⟨b, hbe⟩ : ∃ b, byteI s k = b := ⟨_, rfl⟩
 obtain ⟨c, hce⟩ : ∃ c, byteI s k2 = c := ⟨_, rfl⟩
 rw [hbe] at hx hb a0
 rw [hce] at hx hb1 a1
 have y0 : IntKind.u16.wrap b = b := by rw [IntKind.wrap_u16]; omega
 have y1 : IntKind.u16.wrap c = c := by rw [IntKind.wrap_u16]; omega
 have y2 : IntKind.u16.wrap (256 * c) = 256 * c := by rw [IntKind.wrap_u16]; omega
 have y3 : IntKind.u16.wrap (b + 256 * c) = x := by rw [IntKind.wrap_u16]; omega
 clear hb hb1 hbe hce hx hk2 hm
 go_enter Tryz.func102, Tryz.ntmps102
 go_wp2_with (go_region)
 all_goals
  go_ret
  exact ⟨rfl, Below.drew (Below.refl _ _)⟩
/-- What the reference reads, for a format. -/
def rI (f : Int) (t : ByteArray) : InsI :=
 ⟨byteI t 0,
  if f = 4 ∨ f = 7 ∨ f = 8 ∨ f = 16 then byteI t 1 / 16 else if f = 2 ∨ f = 5 ∨ f = 6 ∨ f = 9 ∨ f = 13 ∨ f = 14 ∨ f = 15 ∨ f = 18 then byteI t 1 else 0,
  if f = 4 ∨ f = 7 ∨ f = 8 ∨ f = 16 then byteI t 1 % 16 else if f = 17 then byteI t 1 else 0,
  if f = 3 then byteI t 1 else if f = 10 then extI (byteI t 1) else if f = 11 then wordI t 1 else if f = 15 then byteI t 2 else if f = 5 ∨ f = 7 ∨ f = 18 then extI (byteI t 2) else if f = 6 ∨ f = 8 ∨ f = 9 ∨ f = 14 ∨ f = 17 ∨ f = 12 then wordI t 2 else if f = 16 ∨ f = 13 then wordI t 3 else 0,
  if f = 13 then wordI t 5 else if f = 17 then wordI t 4 else 0,
  if f = 12 then byteI t 1 else if f = 16 ∨ f = 13 then byteI t 2 else 0,
  rsize (byteI t 0)⟩
theorem set7 {w W : World} {q : Nat} {c0 c1 c2 c3 c4 c5 c6 v0 v1 v2 v3 v4 v5 v6 : Value} (h : w.heap[q]? = some (.cells #[c0, c1, c2, c3, c4, c5, c6] 68 (0, 0)))
  (e : (((((((w.setCell ⟨q, 0, none⟩ v0).setCell ⟨q, 1, none⟩ v1).setCell ⟨q, 2, none⟩ v2).setCell ⟨q, 3, none⟩ v3).setCell ⟨q, 4, none⟩ v4).setCell ⟨q, 5, none⟩ v5).setCell ⟨q, 6, none⟩ v6) = W) : W.heap[q]? = some (.cells #[v0, v1, v2, v3, v4, v5, v6] 68 (0, 0)) := by
 have h9 := sc_blk (sc_blk (sc_blk (sc_blk (sc_blk (sc_blk (sc_blk (k := 0) (v := v0) h rfl) (k := 1) (v := v1) rfl) (k := 2) (v := v2) rfl) (k := 3) (v := v3) rfl) (k := 4) (v := v4) rfl) (k := 5) (v := v5) rfl) (k := 6) (v := v6) e
 simpa using h9
theorem cells7 {w : World} {q : Nat} {c0 c1 c2 c3 c4 c5 c6 : Value} {t : TypeId} (h : w.heap[q]? = some (.cells #[c0, c1, c2, c3, c4, c5, c6] t (0, 0))) :
  (w.cell? ⟨q, 0, none⟩ = some c0 ∧ w.cell? ⟨q, 1, none⟩ = some c1 ∧ w.cell? ⟨q, 2, none⟩ = some c2 ∧ w.cell? ⟨q, 3, none⟩ = some c3 ∧ w.cell? ⟨q, 4, none⟩ = some c4 ∧ w.cell? ⟨q, 5, none⟩ = some c5 ∧ w.cell? ⟨q, 6, none⟩ = some c6) ∧ w.frozen? ⟨q, 0, none⟩ = false ∧ w.frozen? ⟨q, 1, none⟩ = false ∧ w.frozen? ⟨q, 2, none⟩ = false ∧ w.frozen? ⟨q, 3, none⟩ = false ∧ w.frozen? ⟨q, 4, none⟩ = false ∧ w.frozen? ⟨q, 5, none⟩ = false ∧ w.frozen? ⟨q, 6, none⟩ = false :=
 ⟨⟨Lib.cell_of_heap h 0, Lib.cell_of_heap h 1, Lib.cell_of_heap h 2, Lib.cell_of_heap h 3, Lib.cell_of_heap h 4, Lib.cell_of_heap h 5, Lib.cell_of_heap h 6⟩, at_fr h 0, at_fr h 1, at_fr h 2, at_fr h 3, at_fr h 4, at_fr h 5, at_fr h 6⟩
/-- The two boxes of fields: the instruction (q) and the result (p). -/
structure FldAt (W0 : World) (p q : Nat) (v0 v1 v2 v3 v4 v5 v6 : Value) (W : World) : Prop where
 bel : Below W0.heap.size W0 W
 hq : W.heap[q]? = some (.cells #[v0, v1, v2, v3, v4, v5, v6] 68 (0, 0))
 hp : W.heap[p]? = some (.cells #[.int .i64 0, .int .i64 0, .int .i64 0, .int .u16 0, .int .u16 0, .int .i64 0, .int .i64 0] 68 (0, 0))
 ne : q ≠ p
 lo : W0.heap.size ≤ q
theorem FldAt.next {W0 W W' : World} {p q : Nat} {v0 v1 v2 v3 v4 v5 v6 : Value} (h : FldAt W0 p q v0 v1 v2 v3 v4 v5 v6 W) (hb : Below W.heap.size W W') : FldAt W0 p q v0 v1 v2 v3 v4 v5 v6 W' := ⟨below_next h.bel hb, at_next hb h.hq, at_next hb h.hp, h.ne, h.lo⟩
theorem FldAt.s1 {W0 W W' : World} {p q : Nat} {v0 v1 v2 v3 v4 v5 v6 x : Value} (h : FldAt W0 p q v0 v1 v2 v3 v4 v5 v6 W) (e : W.setCell ⟨q, 1, none⟩ x = W') : FldAt W0 p q v0 x v2 v3 v4 v5 v6 W' := ⟨sc_bel h.bel h.lo e, sc_blk h.hq e, sc_oth h.ne h.hp e, h.ne, h.lo⟩
theorem FldAt.s2 {W0 W W' : World} {p q : Nat} {v0 v1 v2 v3 v4 v5 v6 x : Value} (h : FldAt W0 p q v0 v1 v2 v3 v4 v5 v6 W) (e : W.setCell ⟨q, 2, none⟩ x = W') : FldAt W0 p q v0 v1 x v3 v4 v5 v6 W' := ⟨sc_bel h.bel h.lo e, sc_blk h.hq e, sc_oth h.ne h.hp e, h.ne, h.lo⟩
theorem FldAt.s3 {W0 W W' : World} {p q : Nat} {v0 v1 v2 v3 v4 v5 v6 x : Value} (h : FldAt W0 p q v0 v1 v2 v3 v4 v5 v6 W) (e : W.setCell ⟨q, 3, none⟩ x = W') : FldAt W0 p q v0 v1 v2 x v4 v5 v6 W' := ⟨sc_bel h.bel h.lo e, sc_blk h.hq e, sc_oth h.ne h.hp e, h.ne, h.lo⟩
theorem FldAt.s4 {W0 W W' : World} {p q : Nat} {v0 v1 v2 v3 v4 v5 v6 x : Value} (h : FldAt W0 p q v0 v1 v2 v3 v4 v5 v6 W) (e : W.setCell ⟨q, 4, none⟩ x = W') : FldAt W0 p q v0 v1 v2 v3 x v5 v6 W' := ⟨sc_bel h.bel h.lo e, sc_blk h.hq e, sc_oth h.ne h.hp e, h.ne, h.lo⟩
theorem FldAt.s5 {W0 W W' : World} {p q : Nat} {v0 v1 v2 v3 v4 v5 v6 x : Value} (h : FldAt W0 p q v0 v1 v2 v3 v4 v5 v6 W) (e : W.setCell ⟨q, 5, none⟩ x = W') : FldAt W0 p q v0 v1 v2 v3 v4 x v6 W' := ⟨sc_bel h.bel h.lo e, sc_blk h.hq e, sc_oth h.ne h.hp e, h.ne, h.lo⟩
theorem byte_z (s : ByteArray) (i : Nat) (h : i < s.size) : (i : Int) < (s.size : Int) ∧ ((s[i]).toNat : Int) = byteI s i ∧ IntKind.i64.wrap (byteI s i) = byteI s i ∧ IntKind.u16.wrap (byteI s i) = byteI s i := by
 have hb := byteI_bd s i
 exact ⟨by omega, byteI_at s i h, IntWalk.i64_in _ (by omega), by rw [IntKind.wrap_u16]; omega⟩
theorem nib_z (s : ByteArray) : (byteI s 1).tdiv 16 = byteI s 1 / 16 ∧ (byteI s 1).tmod 16 = byteI s 1 % 16 ∧ IntKind.u8.wrap (byteI s 1 / 16) = byteI s 1 / 16 ∧ IntKind.u8.wrap (byteI s 1 % 16) = byteI s 1 % 16 ∧ IntKind.i64.wrap (byteI s 1 / 16) = byteI s 1 / 16 ∧ IntKind.i64.wrap (byteI s 1 % 16) = byteI s 1 % 16 := by
 have hb := byteI_bd s 1
 exact ⟨Int.tdiv_eq_ediv_of_nonneg (by omega), Int.tmod_eq_emod_of_nonneg (by omega), by rw [IntKind.wrap_u8]; omega, by rw [IntKind.wrap_u8]; omega, IntWalk.i64_in _ (by omega), IntWalk.i64_in _ (by omega)⟩
set_option maxRecDepth 20000 in
set_option maxHeartbeats 40000000 in
theorem fields_z (s : ByteArray) (w : World) (hz : 0 < s.size) (hf0 : rfmt (byteI s 0) ≠ 0) (hs : rsize (byteI s 0) ≤ (s.size : Int)) : Calls Tryz.prog 79 #[.string s] w fun e w' => e = .returned (.agg (rI (rfmt (byteI s 0)) s).cells.toArray) ∧ Below w.heap.size w w' := by
 have hbd := rfmt_bd (byteI s 0)
 have hsz : rsize (byteI s 0) = (rsizeL[(rfmt (byteI s 0)).toNat]?).getD 0 := rfl
 obtain ⟨f, hf⟩ : ∃ f, rfmt (byteI s 0) = f := ⟨_, rfl⟩
 obtain ⟨z, hzz⟩ : ∃ z, rsize (byteI s 0) = z := ⟨_, rfl⟩
 have B0 := byteI_bd s 0
 have HF : Hid (∀ W, Calls Tryz.prog 78 #[.int .i64 (byteI s 0)] W fun e w' => e = .returned (.int .i64 f) ∧ Below W.heap.size W w') := Lib.hid fun W => by rw [← hf]; exact rformat_any _ W
 have HS : Hid (∀ W, Calls Tryz.prog 47 #[.int .u8 (byteI s 0)] W fun e w' => e = .returned (.int .i64 z) ∧ Below W.heap.size W w') := Lib.hid fun W => by rw [← hzz]; exact rsize_any _ W B0.1 B0.2
 have a0 := byteI_at s 0 hz
 have w0 : IntKind.i64.wrap (byteI s 0) = byteI s 0 := IntWalk.i64_in _ (by omega)
 have iz : (0 : Int) < (s.size : Int) := by omega
 rw [hf] at hbd hsz hf0 ⊢
 rw [hzz] at hsz hs
 have HSZ := Lib.hid hsz
 have HLE := Lib.hid hs
 have HBD := Lib.hid (And.intro hbd hf0)
 have HRI : Hid (∀ y, (rI y s).op = byteI s 0 ∧ (rI y s).size = z) := Lib.hid fun y => ⟨rfl, hzz⟩
 obtain ⟨b0, hb0⟩ : ∃ b, byteI s 0 = b := ⟨_, rfl⟩
 rw [hb0] at HF HS HRI a0 w0
 clear hf hzz hbd hsz hs hf0 B0 hb0
 go_enter Tryz.func79, Tryz.ntmps79
 go_upto_region 1 with (fail)
 have HRES : Hid ((w.alloc (.cells #[.int .i64 0, .int .i64 0, .int .i64 0, .int .u16 0, .int .u16 0, .int .i64 0, .int .i64 0] 68)).heap[w.heap.size]? = some (.cells #[.int .i64 0, .int .i64 0, .int .i64 0, .int .u16 0, .int .u16 0, .int .i64 0, .int .i64 0] 68 (0, 0))) := Lib.hid (alloc_at w _)
 have HB : Hid (∀ V, Below (w.alloc (.cells #[.int .i64 0, .int .i64 0, .int .i64 0, .int .u16 0, .int .u16 0, .int .i64 0, .int .i64 0] 68)).heap.size (w.alloc (.cells #[.int .i64 0, .int .i64 0, .int .i64 0, .int .u16 0, .int .u16 0, .int .i64 0, .int .i64 0] 68)) V → Below w.heap.size w V) := Lib.hid fun V hV => below_next (below1 w _) hV
 have HB' : Hid (w.heap.size < (w.alloc (.cells #[.int .i64 0, .int .i64 0, .int .i64 0, .int .u16 0, .int .u16 0, .int .i64 0, .int .i64 0] 68)).heap.size) := Lib.hid (by simp)
 obtain ⟨p, hp⟩ : ∃ p, w.heap.size = p := ⟨_, rfl⟩
 have HPW : Hid (w.heap.size ≤ p) := Lib.hid (Nat.le_of_eq hp)
 rw [hp] at HRES HB' ⊢
 generalize w.alloc _ = W0 at *
 clear hp
 refine' wp_region_flowR [[], [(5, 0)], [(6, 1)], [], [(8, 3)], [(9, 4)], [(7, 2), (10, 5)], [], [(5, 0), (6, 1), (7, 2), (8, 3), (9, 4), (10, 5), (11, 6), (3, 7)]] (relL [eqV _, eqV _, eqV _, eqV _, eqV _, eqV _, eqV _, fun v V => ∃ q, v = .pointer (some ⟨q, 0, none⟩) ∧ V.heap[q]? = some (.cells #[.int .i64 0, .int .i64 0, .int .i64 0, .int .u16 0, .int .u16 0, .int .i64 0, .int .i64 0] 68 (0, 0)) ∧ W0.heap.size ≤ q]) (by kernel_rfl) (by kernel_rfl) ?_
 rotate_left 7
 iterate 5
  refine FlowR.step ?_ ?_
  ·intro V hV
   simp only [Dep, lQ]
   repeat rintro _ ⟨_, rfl, _⟩
   intro K hK
   go_simp
   refine hK _ _ ?_ (Below.refl _ _)
   simp only [lR]
   exact rfl
 refine FlowR.step ?_ ?_
 ·intro V hV
  simp only [Dep, lQ]
  repeat rintro _ ⟨_, rfl, _⟩
  intro K hK
  go_simp
  go_at_call 47
  refine (HS.out _).mono ?_
  rintro e w9 ⟨rfl, h9⟩
  refine hK _ _ ?_ h9
  simp only [lR]
  exact rfl
 refine FlowR.step ?_ ?_
 ·intro V hV
  simp only [Dep, lQ]
  repeat rintro _ ⟨_, rfl, _⟩
  intro K hK
  go_simp
  refine hK _ _ ?_ (Below.refl _ _)
  simp only [lR]
  exact rfl
 refine FlowR.step ?_ ?_
 ·intro V hV
  simp only [Dep, lQ]
  repeat rintro _ ⟨_, rfl, _⟩
  intro K hK
  go_simp
  exact hK _ _ ⟨_, rfl, alloc_at V _, hV.size⟩ (below1 V _)
 refine FlowR.last ?_
 intro V hV
 simp only [Dep, lQ]
 iterate 7
  rintro _ ⟨_, rfl, _⟩
 rintro _ ⟨V7, ⟨q, rfl, hq, hlo⟩, hb7⟩
 intro K hK
 have hqV := at_next hb7 hq
 obtain ⟨⟨k0, k1, k2, k3, k4, k5, k6⟩, g0, g1, g2, g3, g4, g5, g6⟩ := cells7 hqV
 go_simp
 refine hK _ _ ?_
 generalize eA : World.setCell _ _ _ = W1
 have hq1 := set7 hqV eA
 have hbel : Below W0.heap.size W0 W1 := by
  rw [← eA]
  iterate 7
   refine Below.setCell ?_ (p := ⟨q, _, none⟩) hlo _
  exact hV
 have H1 := Lib.hid (FldAt.mk hbel hq1 (at_next hbel HRES.out) (by have := at_lt HRES.out; omega) hlo)
 clear k0 k1 k2 k3 k4 k5 k6 g0 g1 g2 g3 g4 g5 g6 hK hbel eA hV hq hlo hb7 hqV hq1 HRES
 obtain ⟨⟨k0, k1, k2, k3, k4, k5, k6⟩, g0, g1, g2, g3, g4, g5, g6⟩ := cells7 H1.out.hq
 go_wp2_with fail
 refine (HF.out _).mono ?_
 rintro e W2 ⟨rfl, h2⟩
 have H2 := Lib.hid (H1.out.next h2)
 clear h2 H1 k0 k1 k2 k3 k4 k5 k6 g0 g1 g2 g3 g4 g5 g6
 obtain ⟨⟨k0, k1, k2, k3, k4, k5, k6⟩, g0, g1, g2, g3, g4, g5, g6⟩ := cells7 H2.out.hq
 obtain ⟨⟨l0, l1, l2, l3, l4, l5, l6⟩, m0, m1, m2, m3, m4, m5, m6⟩ := cells7 H2.out.hp
 obtain ⟨j, hj, hj1, hj2⟩ : ∃ j : Nat, f = (j : Int) ∧ 1 ≤ j ∧ j ≤ 18 := ⟨f.toNat, by have := HBD.out; omega, by have := HBD.out; omega, by have := HBD.out; omega⟩
 subst hj
 have hjj : j = 1 ∨ j = 2 ∨ j = 3 ∨ j = 4 ∨ (j = 5 ∨ j = 18) ∨ (j = 6 ∨ j = 9 ∨ j = 14) ∨ j = 7 ∨ j = 8 ∨ j = 10 ∨ j = 11 ∨ j = 12 ∨ j = 13 ∨ j = 15 ∨ j = 16 ∨ j = 17 := by omega
 rcases hjj with rfl | rfl | rfl | rfl | (rfl | rfl) | (rfl | rfl | rfl) | rfl | rfl | rfl | rfl | rfl | rfl | rfl | rfl | rfl
 ·have hzl : z = 1 := HSZ.out
  have hle := HLE.out
  have HZL := Lib.hid hzl
  clear hzl hle
  go_upto_region 52 with (fail)
  go_wp2_with fail
  refine bodyPost_ret (v := .agg #[.int .i64 b0, .int .i64 0, .int .i64 0, .int .u16 0, .int .u16 0, .int .i64 0, .int .i64 z]) (by simp [results, Tryz.results79, go_sem, *]) rfl ⟨?_, ?_⟩
  ·obtain ⟨h1, h2⟩ : byteI s 0 = b0 ∧ rsize (byteI s 0) = z := HRI.out 1
   rw [h1] at h2
   simp [rI, InsI.cells, h1, h2]
  iterate 7
   refine Below.setCell ?_ (p := ⟨p, _, none⟩) HPW.out _
  exact HB.out _ H2.out.bel
 ·have hzl : z = 2 := HSZ.out
  have hle := HLE.out
  have HZL := Lib.hid hzl
  have ls1 : 1 < s.size := by omega
  obtain ⟨n1, a1, v1, u1⟩ := byte_z s 1 ls1
  clear hzl hle
  go_upto_region 52 with (fail)
  generalize eA : World.setCell _ _ _ = W3
  have H3 := Lib.hid (H2.out.s1 eA)
  clear eA k0 k1 k2 k3 k4 k5 k6 g0 g1 g2 g3 g4 g5 g6 l0 l1 l2 l3 l4 l5 l6 m0 m1 m2 m3 m4 m5 m6
  obtain ⟨⟨k0, k1, k2, k3, k4, k5, k6⟩, g0, g1, g2, g3, g4, g5, g6⟩ := cells7 H3.out.hq
  obtain ⟨⟨l0, l1, l2, l3, l4, l5, l6⟩, m0, m1, m2, m3, m4, m5, m6⟩ := cells7 H3.out.hp
  go_wp2_with fail
  refine bodyPost_ret (v := .agg #[.int .i64 b0, .int .i64 (byteI s 1), .int .i64 0, .int .u16 0, .int .u16 0, .int .i64 0, .int .i64 z]) (by simp [results, Tryz.results79, go_sem, *]) rfl ⟨?_, ?_⟩
  ·obtain ⟨h1, h2⟩ : byteI s 0 = b0 ∧ rsize (byteI s 0) = z := HRI.out 1
   rw [h1] at h2
   simp [rI, InsI.cells, h1, h2]
  iterate 7
   refine Below.setCell ?_ (p := ⟨p, _, none⟩) HPW.out _
  exact HB.out _ H3.out.bel
 ·have hzl : z = 2 := HSZ.out
  have hle := HLE.out
  have HZL := Lib.hid hzl
  have ls1 : 1 < s.size := by omega
  obtain ⟨n1, a1, v1, u1⟩ := byte_z s 1 ls1
  clear hzl hle
  go_upto_region 52 with (fail)
  generalize eA : World.setCell _ _ _ = W3
  have H3 := Lib.hid (H2.out.s3 eA)
  clear eA k0 k1 k2 k3 k4 k5 k6 g0 g1 g2 g3 g4 g5 g6 l0 l1 l2 l3 l4 l5 l6 m0 m1 m2 m3 m4 m5 m6
  obtain ⟨⟨k0, k1, k2, k3, k4, k5, k6⟩, g0, g1, g2, g3, g4, g5, g6⟩ := cells7 H3.out.hq
  obtain ⟨⟨l0, l1, l2, l3, l4, l5, l6⟩, m0, m1, m2, m3, m4, m5, m6⟩ := cells7 H3.out.hp
  go_wp2_with fail
  refine bodyPost_ret (v := .agg #[.int .i64 b0, .int .i64 0, .int .i64 0, .int .u16 (byteI s 1), .int .u16 0, .int .i64 0, .int .i64 z]) (by simp [results, Tryz.results79, go_sem, *]) rfl ⟨?_, ?_⟩
  ·obtain ⟨h1, h2⟩ : byteI s 0 = b0 ∧ rsize (byteI s 0) = z := HRI.out 1
   rw [h1] at h2
   simp [rI, InsI.cells, h1, h2]
  iterate 7
   refine Below.setCell ?_ (p := ⟨p, _, none⟩) HPW.out _
  exact HB.out _ H3.out.bel
 ·have hzl : z = 2 := HSZ.out
  have hle := HLE.out
  have HZL := Lib.hid hzl
  have ls1 : 1 < s.size := by omega
  obtain ⟨n1, a1, v1, u1⟩ := byte_z s 1 ls1
  obtain ⟨t1, t2, t3, t4, t5, t6⟩ := nib_z s
  clear hzl hle
  go_upto_region 52 with (fail)
  generalize eA : World.setCell _ _ _ = W3
  have H3 := Lib.hid ((H2.out.s1 rfl).s2 eA)
  clear eA k0 k1 k2 k3 k4 k5 k6 g0 g1 g2 g3 g4 g5 g6 l0 l1 l2 l3 l4 l5 l6 m0 m1 m2 m3 m4 m5 m6
  obtain ⟨⟨k0, k1, k2, k3, k4, k5, k6⟩, g0, g1, g2, g3, g4, g5, g6⟩ := cells7 H3.out.hq
  obtain ⟨⟨l0, l1, l2, l3, l4, l5, l6⟩, m0, m1, m2, m3, m4, m5, m6⟩ := cells7 H3.out.hp
  go_wp2_with fail
  refine bodyPost_ret (v := .agg #[.int .i64 b0, .int .i64 (byteI s 1 / 16), .int .i64 (byteI s 1 % 16), .int .u16 0, .int .u16 0, .int .i64 0, .int .i64 z]) (by simp [results, Tryz.results79, go_sem, *]) rfl ⟨?_, ?_⟩
  ·obtain ⟨h1, h2⟩ : byteI s 0 = b0 ∧ rsize (byteI s 0) = z := HRI.out 1
   rw [h1] at h2
   simp [rI, InsI.cells, h1, h2]
  iterate 7
   refine Below.setCell ?_ (p := ⟨p, _, none⟩) HPW.out _
  exact HB.out _ H3.out.bel
 iterate 2
  ·have hzl : z = 3 := HSZ.out
   have hle := HLE.out
   have HZL := Lib.hid hzl
   have ls1 : 1 < s.size := by omega
   obtain ⟨n1, a1, v1, u1⟩ := byte_z s 1 ls1
   have ls2 : 2 < s.size := by omega
   obtain ⟨n2, a2, v2, u2⟩ := byte_z s 2 ls2
   clear hzl hle
   go_wp2_with fail
   refine (extend_z (byteI s 2) _ (byteI_bd s 2).1 (byteI_bd s 2).2).mono ?_
   rintro e w9 ⟨rfl, rfl⟩
   go_upto_region 52 with (fail)
   generalize eA : World.setCell _ _ _ = W3
   have H3 := Lib.hid ((H2.out.s1 rfl).s3 eA)
   clear eA k0 k1 k2 k3 k4 k5 k6 g0 g1 g2 g3 g4 g5 g6 l0 l1 l2 l3 l4 l5 l6 m0 m1 m2 m3 m4 m5 m6
   obtain ⟨⟨k0, k1, k2, k3, k4, k5, k6⟩, g0, g1, g2, g3, g4, g5, g6⟩ := cells7 H3.out.hq
   obtain ⟨⟨l0, l1, l2, l3, l4, l5, l6⟩, m0, m1, m2, m3, m4, m5, m6⟩ := cells7 H3.out.hp
   go_wp2_with fail
   refine bodyPost_ret (v := .agg #[.int .i64 b0, .int .i64 (byteI s 1), .int .i64 0, .int .u16 (extI (byteI s 2)), .int .u16 0, .int .i64 0, .int .i64 z]) (by simp [results, Tryz.results79, go_sem, *]) rfl ⟨?_, ?_⟩
   ·obtain ⟨h1, h2⟩ : byteI s 0 = b0 ∧ rsize (byteI s 0) = z := HRI.out 1
    rw [h1] at h2
    simp [rI, InsI.cells, h1, h2]
   iterate 7
    refine Below.setCell ?_ (p := ⟨p, _, none⟩) HPW.out _
   exact HB.out _ H3.out.bel
 iterate 3
  ·have hzl : z = 4 := HSZ.out
   have hle := HLE.out
   have HZL := Lib.hid hzl
   have ls1 : 1 < s.size := by omega
   obtain ⟨n1, a1, v1, u1⟩ := byte_z s 1 ls1
   clear hzl hle
   go_wp2_with fail
   generalize eA : World.setCell _ _ _ = W3
   have H3 := Lib.hid (H2.out.s1 eA)
   clear eA k0 k1 k2 k3 k4 k5 k6 g0 g1 g2 g3 g4 g5 g6 l0 l1 l2 l3 l4 l5 l6 m0 m1 m2 m3 m4 m5 m6
   refine (word_z s 2 _ (by have := HLE.out; have := HZL.out; omega) (by decide)).mono ?_
   rintro e W4 ⟨rfl, h9⟩
   have H4 := Lib.hid (H3.out.next h9)
   clear h9
   obtain ⟨⟨k0, k1, k2, k3, k4, k5, k6⟩, g0, g1, g2, g3, g4, g5, g6⟩ := cells7 H4.out.hq
   obtain ⟨⟨l0, l1, l2, l3, l4, l5, l6⟩, m0, m1, m2, m3, m4, m5, m6⟩ := cells7 H4.out.hp
   go_upto_region 52 with (fail)
   generalize eA : World.setCell _ _ _ = W5
   have H5 := Lib.hid (H4.out.s3 eA)
   clear eA k0 k1 k2 k3 k4 k5 k6 g0 g1 g2 g3 g4 g5 g6 l0 l1 l2 l3 l4 l5 l6 m0 m1 m2 m3 m4 m5 m6
   obtain ⟨⟨k0, k1, k2, k3, k4, k5, k6⟩, g0, g1, g2, g3, g4, g5, g6⟩ := cells7 H5.out.hq
   obtain ⟨⟨l0, l1, l2, l3, l4, l5, l6⟩, m0, m1, m2, m3, m4, m5, m6⟩ := cells7 H5.out.hp
   go_wp2_with fail
   refine bodyPost_ret (v := .agg #[.int .i64 b0, .int .i64 (byteI s 1), .int .i64 0, .int .u16 (wordI s 2), .int .u16 0, .int .i64 0, .int .i64 z]) (by simp [results, Tryz.results79, go_sem, *]) rfl ⟨?_, ?_⟩
   ·obtain ⟨h1, h2⟩ : byteI s 0 = b0 ∧ rsize (byteI s 0) = z := HRI.out 1
    rw [h1] at h2
    simp [rI, InsI.cells, h1, h2]
   iterate 7
    refine Below.setCell ?_ (p := ⟨p, _, none⟩) HPW.out _
   exact HB.out _ H5.out.bel
 ·have hzl : z = 3 := HSZ.out
  have hle := HLE.out
  have HZL := Lib.hid hzl
  have ls1 : 1 < s.size := by omega
  obtain ⟨n1, a1, v1, u1⟩ := byte_z s 1 ls1
  have ls2 : 2 < s.size := by omega
  obtain ⟨n2, a2, v2, u2⟩ := byte_z s 2 ls2
  obtain ⟨t1, t2, t3, t4, t5, t6⟩ := nib_z s
  clear hzl hle
  go_wp2_with fail
  refine (extend_z (byteI s 2) _ (byteI_bd s 2).1 (byteI_bd s 2).2).mono ?_
  rintro e w9 ⟨rfl, rfl⟩
  go_upto_region 52 with (fail)
  generalize eA : World.setCell _ _ _ = W3
  have H3 := Lib.hid (((H2.out.s1 rfl).s2 rfl).s3 eA)
  clear eA k0 k1 k2 k3 k4 k5 k6 g0 g1 g2 g3 g4 g5 g6 l0 l1 l2 l3 l4 l5 l6 m0 m1 m2 m3 m4 m5 m6
  obtain ⟨⟨k0, k1, k2, k3, k4, k5, k6⟩, g0, g1, g2, g3, g4, g5, g6⟩ := cells7 H3.out.hq
  obtain ⟨⟨l0, l1, l2, l3, l4, l5, l6⟩, m0, m1, m2, m3, m4, m5, m6⟩ := cells7 H3.out.hp
  go_wp2_with fail
  refine bodyPost_ret (v := .agg #[.int .i64 b0, .int .i64 (byteI s 1 / 16), .int .i64 (byteI s 1 % 16), .int .u16 (extI (byteI s 2)), .int .u16 0, .int .i64 0, .int .i64 z]) (by simp [results, Tryz.results79, go_sem, *]) rfl ⟨?_, ?_⟩
  ·obtain ⟨h1, h2⟩ : byteI s 0 = b0 ∧ rsize (byteI s 0) = z := HRI.out 1
   rw [h1] at h2
   simp [rI, InsI.cells, h1, h2]
  iterate 7
   refine Below.setCell ?_ (p := ⟨p, _, none⟩) HPW.out _
  exact HB.out _ H3.out.bel
 ·have hzl : z = 4 := HSZ.out
  have hle := HLE.out
  have HZL := Lib.hid hzl
  have ls1 : 1 < s.size := by omega
  obtain ⟨n1, a1, v1, u1⟩ := byte_z s 1 ls1
  obtain ⟨t1, t2, t3, t4, t5, t6⟩ := nib_z s
  clear hzl hle
  go_wp2_with fail
  generalize eA : World.setCell _ _ _ = W3
  have H3 := Lib.hid ((H2.out.s1 rfl).s2 eA)
  clear eA k0 k1 k2 k3 k4 k5 k6 g0 g1 g2 g3 g4 g5 g6 l0 l1 l2 l3 l4 l5 l6 m0 m1 m2 m3 m4 m5 m6
  refine (word_z s 2 _ (by have := HLE.out; have := HZL.out; omega) (by decide)).mono ?_
  rintro e W4 ⟨rfl, h9⟩
  have H4 := Lib.hid (H3.out.next h9)
  clear h9
  obtain ⟨⟨k0, k1, k2, k3, k4, k5, k6⟩, g0, g1, g2, g3, g4, g5, g6⟩ := cells7 H4.out.hq
  obtain ⟨⟨l0, l1, l2, l3, l4, l5, l6⟩, m0, m1, m2, m3, m4, m5, m6⟩ := cells7 H4.out.hp
  go_upto_region 52 with (fail)
  generalize eA : World.setCell _ _ _ = W5
  have H5 := Lib.hid (H4.out.s3 eA)
  clear eA k0 k1 k2 k3 k4 k5 k6 g0 g1 g2 g3 g4 g5 g6 l0 l1 l2 l3 l4 l5 l6 m0 m1 m2 m3 m4 m5 m6
  obtain ⟨⟨k0, k1, k2, k3, k4, k5, k6⟩, g0, g1, g2, g3, g4, g5, g6⟩ := cells7 H5.out.hq
  obtain ⟨⟨l0, l1, l2, l3, l4, l5, l6⟩, m0, m1, m2, m3, m4, m5, m6⟩ := cells7 H5.out.hp
  go_wp2_with fail
  refine bodyPost_ret (v := .agg #[.int .i64 b0, .int .i64 (byteI s 1 / 16), .int .i64 (byteI s 1 % 16), .int .u16 (wordI s 2), .int .u16 0, .int .i64 0, .int .i64 z]) (by simp [results, Tryz.results79, go_sem, *]) rfl ⟨?_, ?_⟩
  ·obtain ⟨h1, h2⟩ : byteI s 0 = b0 ∧ rsize (byteI s 0) = z := HRI.out 1
   rw [h1] at h2
   simp [rI, InsI.cells, h1, h2]
  iterate 7
   refine Below.setCell ?_ (p := ⟨p, _, none⟩) HPW.out _
  exact HB.out _ H5.out.bel
 ·have hzl : z = 2 := HSZ.out
  have hle := HLE.out
  have HZL := Lib.hid hzl
  have ls1 : 1 < s.size := by omega
  obtain ⟨n1, a1, v1, u1⟩ := byte_z s 1 ls1
  clear hzl hle
  go_wp2_with fail
  refine (extend_z (byteI s 1) _ (byteI_bd s 1).1 (byteI_bd s 1).2).mono ?_
  rintro e w9 ⟨rfl, rfl⟩
  go_upto_region 52 with (fail)
  generalize eA : World.setCell _ _ _ = W3
  have H3 := Lib.hid (H2.out.s3 eA)
  clear eA k0 k1 k2 k3 k4 k5 k6 g0 g1 g2 g3 g4 g5 g6 l0 l1 l2 l3 l4 l5 l6 m0 m1 m2 m3 m4 m5 m6
  obtain ⟨⟨k0, k1, k2, k3, k4, k5, k6⟩, g0, g1, g2, g3, g4, g5, g6⟩ := cells7 H3.out.hq
  obtain ⟨⟨l0, l1, l2, l3, l4, l5, l6⟩, m0, m1, m2, m3, m4, m5, m6⟩ := cells7 H3.out.hp
  go_wp2_with fail
  refine bodyPost_ret (v := .agg #[.int .i64 b0, .int .i64 0, .int .i64 0, .int .u16 (extI (byteI s 1)), .int .u16 0, .int .i64 0, .int .i64 z]) (by simp [results, Tryz.results79, go_sem, *]) rfl ⟨?_, ?_⟩
  ·obtain ⟨h1, h2⟩ : byteI s 0 = b0 ∧ rsize (byteI s 0) = z := HRI.out 1
   rw [h1] at h2
   simp [rI, InsI.cells, h1, h2]
  iterate 7
   refine Below.setCell ?_ (p := ⟨p, _, none⟩) HPW.out _
  exact HB.out _ H3.out.bel
 ·have hzl : z = 3 := HSZ.out
  have hle := HLE.out
  have HZL := Lib.hid hzl
  clear hzl hle
  go_wp2_with fail
  clear k0 k1 k2 k3 k4 k5 k6 g0 g1 g2 g3 g4 g5 g6 l0 l1 l2 l3 l4 l5 l6 m0 m1 m2 m3 m4 m5 m6
  refine (word_z s 1 _ (by have := HLE.out; have := HZL.out; omega) (by decide)).mono ?_
  rintro e W3 ⟨rfl, h9⟩
  have H3 := Lib.hid (H2.out.next h9)
  clear h9
  obtain ⟨⟨k0, k1, k2, k3, k4, k5, k6⟩, g0, g1, g2, g3, g4, g5, g6⟩ := cells7 H3.out.hq
  obtain ⟨⟨l0, l1, l2, l3, l4, l5, l6⟩, m0, m1, m2, m3, m4, m5, m6⟩ := cells7 H3.out.hp
  go_upto_region 52 with (fail)
  generalize eA : World.setCell _ _ _ = W4
  have H4 := Lib.hid (H3.out.s3 eA)
  clear eA k0 k1 k2 k3 k4 k5 k6 g0 g1 g2 g3 g4 g5 g6 l0 l1 l2 l3 l4 l5 l6 m0 m1 m2 m3 m4 m5 m6
  obtain ⟨⟨k0, k1, k2, k3, k4, k5, k6⟩, g0, g1, g2, g3, g4, g5, g6⟩ := cells7 H4.out.hq
  obtain ⟨⟨l0, l1, l2, l3, l4, l5, l6⟩, m0, m1, m2, m3, m4, m5, m6⟩ := cells7 H4.out.hp
  go_wp2_with fail
  refine bodyPost_ret (v := .agg #[.int .i64 b0, .int .i64 0, .int .i64 0, .int .u16 (wordI s 1), .int .u16 0, .int .i64 0, .int .i64 z]) (by simp [results, Tryz.results79, go_sem, *]) rfl ⟨?_, ?_⟩
  ·obtain ⟨h1, h2⟩ : byteI s 0 = b0 ∧ rsize (byteI s 0) = z := HRI.out 1
   rw [h1] at h2
   simp [rI, InsI.cells, h1, h2]
  iterate 7
   refine Below.setCell ?_ (p := ⟨p, _, none⟩) HPW.out _
  exact HB.out _ H4.out.bel
 ·have hzl : z = 4 := HSZ.out
  have hle := HLE.out
  have HZL := Lib.hid hzl
  have ls1 : 1 < s.size := by omega
  obtain ⟨n1, a1, v1, u1⟩ := byte_z s 1 ls1
  clear hzl hle
  go_wp2_with fail
  generalize eA : World.setCell _ _ _ = W3
  have H3 := Lib.hid (H2.out.s5 eA)
  clear eA k0 k1 k2 k3 k4 k5 k6 g0 g1 g2 g3 g4 g5 g6 l0 l1 l2 l3 l4 l5 l6 m0 m1 m2 m3 m4 m5 m6
  refine (word_z s 2 _ (by have := HLE.out; have := HZL.out; omega) (by decide)).mono ?_
  rintro e W4 ⟨rfl, h9⟩
  have H4 := Lib.hid (H3.out.next h9)
  clear h9
  obtain ⟨⟨k0, k1, k2, k3, k4, k5, k6⟩, g0, g1, g2, g3, g4, g5, g6⟩ := cells7 H4.out.hq
  obtain ⟨⟨l0, l1, l2, l3, l4, l5, l6⟩, m0, m1, m2, m3, m4, m5, m6⟩ := cells7 H4.out.hp
  go_upto_region 52 with (fail)
  generalize eA : World.setCell _ _ _ = W5
  have H5 := Lib.hid (H4.out.s3 eA)
  clear eA k0 k1 k2 k3 k4 k5 k6 g0 g1 g2 g3 g4 g5 g6 l0 l1 l2 l3 l4 l5 l6 m0 m1 m2 m3 m4 m5 m6
  obtain ⟨⟨k0, k1, k2, k3, k4, k5, k6⟩, g0, g1, g2, g3, g4, g5, g6⟩ := cells7 H5.out.hq
  obtain ⟨⟨l0, l1, l2, l3, l4, l5, l6⟩, m0, m1, m2, m3, m4, m5, m6⟩ := cells7 H5.out.hp
  go_wp2_with fail
  refine bodyPost_ret (v := .agg #[.int .i64 b0, .int .i64 0, .int .i64 0, .int .u16 (wordI s 2), .int .u16 0, .int .i64 (byteI s 1), .int .i64 z]) (by simp [results, Tryz.results79, go_sem, *]) rfl ⟨?_, ?_⟩
  ·obtain ⟨h1, h2⟩ : byteI s 0 = b0 ∧ rsize (byteI s 0) = z := HRI.out 1
   rw [h1] at h2
   simp [rI, InsI.cells, h1, h2]
  iterate 7
   refine Below.setCell ?_ (p := ⟨p, _, none⟩) HPW.out _
  exact HB.out _ H5.out.bel
 ·have hzl : z = 7 := HSZ.out
  have hle := HLE.out
  have HZL := Lib.hid hzl
  have ls1 : 1 < s.size := by omega
  obtain ⟨n1, a1, v1, u1⟩ := byte_z s 1 ls1
  have ls2 : 2 < s.size := by omega
  obtain ⟨n2, a2, v2, u2⟩ := byte_z s 2 ls2
  clear hzl hle
  go_wp2_with fail
  generalize eA : World.setCell _ _ _ = W3
  have H3 := Lib.hid ((H2.out.s1 rfl).s5 eA)
  clear eA k0 k1 k2 k3 k4 k5 k6 g0 g1 g2 g3 g4 g5 g6 l0 l1 l2 l3 l4 l5 l6 m0 m1 m2 m3 m4 m5 m6
  refine (word_z s 3 _ (by have := HLE.out; have := HZL.out; omega) (by decide)).mono ?_
  rintro e W4 ⟨rfl, h9⟩
  have H4 := Lib.hid (H3.out.next h9)
  clear h9
  obtain ⟨⟨k0, k1, k2, k3, k4, k5, k6⟩, g0, g1, g2, g3, g4, g5, g6⟩ := cells7 H4.out.hq
  obtain ⟨⟨l0, l1, l2, l3, l4, l5, l6⟩, m0, m1, m2, m3, m4, m5, m6⟩ := cells7 H4.out.hp
  go_wp2_with fail
  generalize eA : World.setCell _ _ _ = W5
  have H5 := Lib.hid (H4.out.s3 eA)
  clear eA k0 k1 k2 k3 k4 k5 k6 g0 g1 g2 g3 g4 g5 g6 l0 l1 l2 l3 l4 l5 l6 m0 m1 m2 m3 m4 m5 m6
  refine (word_z s 5 _ (by have := HLE.out; have := HZL.out; omega) (by decide)).mono ?_
  rintro e W6 ⟨rfl, h9⟩
  have H6 := Lib.hid (H5.out.next h9)
  clear h9
  obtain ⟨⟨k0, k1, k2, k3, k4, k5, k6⟩, g0, g1, g2, g3, g4, g5, g6⟩ := cells7 H6.out.hq
  obtain ⟨⟨l0, l1, l2, l3, l4, l5, l6⟩, m0, m1, m2, m3, m4, m5, m6⟩ := cells7 H6.out.hp
  go_upto_region 52 with (fail)
  generalize eA : World.setCell _ _ _ = W7
  have H7 := Lib.hid (H6.out.s4 eA)
  clear eA k0 k1 k2 k3 k4 k5 k6 g0 g1 g2 g3 g4 g5 g6 l0 l1 l2 l3 l4 l5 l6 m0 m1 m2 m3 m4 m5 m6
  obtain ⟨⟨k0, k1, k2, k3, k4, k5, k6⟩, g0, g1, g2, g3, g4, g5, g6⟩ := cells7 H7.out.hq
  obtain ⟨⟨l0, l1, l2, l3, l4, l5, l6⟩, m0, m1, m2, m3, m4, m5, m6⟩ := cells7 H7.out.hp
  go_wp2_with fail
  refine bodyPost_ret (v := .agg #[.int .i64 b0, .int .i64 (byteI s 1), .int .i64 0, .int .u16 (wordI s 3), .int .u16 (wordI s 5), .int .i64 (byteI s 2), .int .i64 z]) (by simp [results, Tryz.results79, go_sem, *]) rfl ⟨?_, ?_⟩
  ·obtain ⟨h1, h2⟩ : byteI s 0 = b0 ∧ rsize (byteI s 0) = z := HRI.out 1
   rw [h1] at h2
   simp [rI, InsI.cells, h1, h2]
  iterate 7
   refine Below.setCell ?_ (p := ⟨p, _, none⟩) HPW.out _
  exact HB.out _ H7.out.bel
 ·have hzl : z = 3 := HSZ.out
  have hle := HLE.out
  have HZL := Lib.hid hzl
  have ls1 : 1 < s.size := by omega
  obtain ⟨n1, a1, v1, u1⟩ := byte_z s 1 ls1
  have ls2 : 2 < s.size := by omega
  obtain ⟨n2, a2, v2, u2⟩ := byte_z s 2 ls2
  clear hzl hle
  go_upto_region 52 with (fail)
  generalize eA : World.setCell _ _ _ = W3
  have H3 := Lib.hid ((H2.out.s1 rfl).s3 eA)
  clear eA k0 k1 k2 k3 k4 k5 k6 g0 g1 g2 g3 g4 g5 g6 l0 l1 l2 l3 l4 l5 l6 m0 m1 m2 m3 m4 m5 m6
  obtain ⟨⟨k0, k1, k2, k3, k4, k5, k6⟩, g0, g1, g2, g3, g4, g5, g6⟩ := cells7 H3.out.hq
  obtain ⟨⟨l0, l1, l2, l3, l4, l5, l6⟩, m0, m1, m2, m3, m4, m5, m6⟩ := cells7 H3.out.hp
  go_wp2_with fail
  refine bodyPost_ret (v := .agg #[.int .i64 b0, .int .i64 (byteI s 1), .int .i64 0, .int .u16 (byteI s 2), .int .u16 0, .int .i64 0, .int .i64 z]) (by simp [results, Tryz.results79, go_sem, *]) rfl ⟨?_, ?_⟩
  ·obtain ⟨h1, h2⟩ : byteI s 0 = b0 ∧ rsize (byteI s 0) = z := HRI.out 1
   rw [h1] at h2
   simp [rI, InsI.cells, h1, h2]
  iterate 7
   refine Below.setCell ?_ (p := ⟨p, _, none⟩) HPW.out _
  exact HB.out _ H3.out.bel
 ·have hzl : z = 5 := HSZ.out
  have hle := HLE.out
  have HZL := Lib.hid hzl
  have ls1 : 1 < s.size := by omega
  obtain ⟨n1, a1, v1, u1⟩ := byte_z s 1 ls1
  have ls2 : 2 < s.size := by omega
  obtain ⟨n2, a2, v2, u2⟩ := byte_z s 2 ls2
  obtain ⟨t1, t2, t3, t4, t5, t6⟩ := nib_z s
  clear hzl hle
  go_wp2_with fail
  generalize eA : World.setCell _ _ _ = W3
  have H3 := Lib.hid (((H2.out.s1 rfl).s2 rfl).s5 eA)
  clear eA k0 k1 k2 k3 k4 k5 k6 g0 g1 g2 g3 g4 g5 g6 l0 l1 l2 l3 l4 l5 l6 m0 m1 m2 m3 m4 m5 m6
  refine (word_z s 3 _ (by have := HLE.out; have := HZL.out; omega) (by decide)).mono ?_
  rintro e W4 ⟨rfl, h9⟩
  have H4 := Lib.hid (H3.out.next h9)
  clear h9
  obtain ⟨⟨k0, k1, k2, k3, k4, k5, k6⟩, g0, g1, g2, g3, g4, g5, g6⟩ := cells7 H4.out.hq
  obtain ⟨⟨l0, l1, l2, l3, l4, l5, l6⟩, m0, m1, m2, m3, m4, m5, m6⟩ := cells7 H4.out.hp
  go_upto_region 52 with (fail)
  generalize eA : World.setCell _ _ _ = W5
  have H5 := Lib.hid (H4.out.s3 eA)
  clear eA k0 k1 k2 k3 k4 k5 k6 g0 g1 g2 g3 g4 g5 g6 l0 l1 l2 l3 l4 l5 l6 m0 m1 m2 m3 m4 m5 m6
  obtain ⟨⟨k0, k1, k2, k3, k4, k5, k6⟩, g0, g1, g2, g3, g4, g5, g6⟩ := cells7 H5.out.hq
  obtain ⟨⟨l0, l1, l2, l3, l4, l5, l6⟩, m0, m1, m2, m3, m4, m5, m6⟩ := cells7 H5.out.hp
  go_wp2_with fail
  refine bodyPost_ret (v := .agg #[.int .i64 b0, .int .i64 (byteI s 1 / 16), .int .i64 (byteI s 1 % 16), .int .u16 (wordI s 3), .int .u16 0, .int .i64 (byteI s 2), .int .i64 z]) (by simp [results, Tryz.results79, go_sem, *]) rfl ⟨?_, ?_⟩
  ·obtain ⟨h1, h2⟩ : byteI s 0 = b0 ∧ rsize (byteI s 0) = z := HRI.out 1
   rw [h1] at h2
   simp [rI, InsI.cells, h1, h2]
  iterate 7
   refine Below.setCell ?_ (p := ⟨p, _, none⟩) HPW.out _
  exact HB.out _ H5.out.bel
 ·have hzl : z = 6 := HSZ.out
  have hle := HLE.out
  have HZL := Lib.hid hzl
  have ls1 : 1 < s.size := by omega
  obtain ⟨n1, a1, v1, u1⟩ := byte_z s 1 ls1
  clear hzl hle
  go_wp2_with fail
  generalize eA : World.setCell _ _ _ = W3
  have H3 := Lib.hid (H2.out.s2 eA)
  clear eA k0 k1 k2 k3 k4 k5 k6 g0 g1 g2 g3 g4 g5 g6 l0 l1 l2 l3 l4 l5 l6 m0 m1 m2 m3 m4 m5 m6
  refine (word_z s 2 _ (by have := HLE.out; have := HZL.out; omega) (by decide)).mono ?_
  rintro e W4 ⟨rfl, h9⟩
  have H4 := Lib.hid (H3.out.next h9)
  clear h9
  obtain ⟨⟨k0, k1, k2, k3, k4, k5, k6⟩, g0, g1, g2, g3, g4, g5, g6⟩ := cells7 H4.out.hq
  obtain ⟨⟨l0, l1, l2, l3, l4, l5, l6⟩, m0, m1, m2, m3, m4, m5, m6⟩ := cells7 H4.out.hp
  go_wp2_with fail
  generalize eA : World.setCell _ _ _ = W5
  have H5 := Lib.hid (H4.out.s3 eA)
  clear eA k0 k1 k2 k3 k4 k5 k6 g0 g1 g2 g3 g4 g5 g6 l0 l1 l2 l3 l4 l5 l6 m0 m1 m2 m3 m4 m5 m6
  refine (word_z s 4 _ (by have := HLE.out; have := HZL.out; omega) (by decide)).mono ?_
  rintro e W6 ⟨rfl, h9⟩
  have H6 := Lib.hid (H5.out.next h9)
  clear h9
  obtain ⟨⟨k0, k1, k2, k3, k4, k5, k6⟩, g0, g1, g2, g3, g4, g5, g6⟩ := cells7 H6.out.hq
  obtain ⟨⟨l0, l1, l2, l3, l4, l5, l6⟩, m0, m1, m2, m3, m4, m5, m6⟩ := cells7 H6.out.hp
  go_upto_region 52 with (fail)
  generalize eA : World.setCell _ _ _ = W7
  have H7 := Lib.hid (H6.out.s4 eA)
  clear eA k0 k1 k2 k3 k4 k5 k6 g0 g1 g2 g3 g4 g5 g6 l0 l1 l2 l3 l4 l5 l6 m0 m1 m2 m3 m4 m5 m6
  obtain ⟨⟨k0, k1, k2, k3, k4, k5, k6⟩, g0, g1, g2, g3, g4, g5, g6⟩ := cells7 H7.out.hq
  obtain ⟨⟨l0, l1, l2, l3, l4, l5, l6⟩, m0, m1, m2, m3, m4, m5, m6⟩ := cells7 H7.out.hp
  go_wp2_with fail
  refine bodyPost_ret (v := .agg #[.int .i64 b0, .int .i64 0, .int .i64 (byteI s 1), .int .u16 (wordI s 2), .int .u16 (wordI s 4), .int .i64 0, .int .i64 z]) (by simp [results, Tryz.results79, go_sem, *]) rfl ⟨?_, ?_⟩
  ·obtain ⟨h1, h2⟩ : byteI s 0 = b0 ∧ rsize (byteI s 0) = z := HRI.out 1
   rw [h1] at h2
   simp [rI, InsI.cells, h1, h2]
  iterate 7
   refine Below.setCell ?_ (p := ⟨p, _, none⟩) HPW.out _
  exact HB.out _ H7.out.bel
end Go.Proofs.YtieaicdihingkaaGreat
