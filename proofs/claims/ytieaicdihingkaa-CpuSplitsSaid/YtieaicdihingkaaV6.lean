/- Put: a word as two bytes. -/
import Derived.Test.YtieaicdihingkaaHK
import Derived.Test.YtieaicdihingkaaV4
namespace Go.Proofs.Ytieaicdihingkaa
set_option linter.unusedVariables false
set_option linter.unusedSimpArgs false
open Go.RowKit
set_option maxRecDepth 20000 in
set_option maxHeartbeats 4000000 in
theorem rput_any (v : Int) (w : World) (h0 : 0 ≤ v) (h1 : v < 65536) : Calls Try.prog 56 #[.int .u16 v] w fun e w' => ∃ s : ByteArray, e = .returned (.string s) ∧ s.size = 2 ∧ Below w.heap.size w w' := by
 obtain ⟨a, ha⟩ : ∃ a, v % 256 = a := ⟨_, rfl⟩
 obtain ⟨b, hb⟩ : ∃ b, v / 256 = b := ⟨_, rfl⟩
 have q0 : IntKind.u8.wrap v = a := by rw [IntKind.wrap_u8]; exact ha
 have q1 : v.tdiv 256 = b := by rw [Int.tdiv_eq_ediv_of_nonneg h0]; exact hb
 have q2 : IntKind.u16.wrap b = b := by rw [IntKind.wrap_u16]; omega
 have q3 : IntKind.u8.wrap b = b := by rw [IntKind.wrap_u8]; omega
 have HCV : (convert 49 9 (.slice (some ⟨w.heap.size, 0, none⟩) 2 2)).run Try.prog (w.alloc (.cells #[.int .u8 a, .int .u8 b] 5)) = .ok (.string ⟨(ramL (fun j => if j = 0 then a else b) 2).toArray⟩) (w.alloc (.cells #[.int .u8 a, .int .u8 b] 5)) := by
  refine ram_conv 2 (fun j => if j = 0 then a else b) w.heap.size _ fun j hj => ?_
  rcases (show j = 0 ∨ j = 1 by omega) with rfl | rfl
  ·exact ⟨Lib.cell_of_heap (alloc_at w _) 0, show 0 ≤ a by omega, show a < 256 by omega⟩
  ·exact ⟨Lib.cell_of_heap (alloc_at w _) 1, show 0 ≤ b by omega, show b < 256 by omega⟩
 have HB := Lib.hid (below1 w (.cells #[.int .u8 a, .int .u8 b] 5))
 clear ha hb
 go_enter Try.func56, Try.ntmps56
 go_wp2_with fail
 exact bodyPost_ret (v := .string ⟨(ramL (fun j => if j = 0 then a else b) 2).toArray⟩) (by simp [results, Try.results56, go_sem]) rfl ⟨_, rfl, rfl, HB.out⟩
end Go.Proofs.Ytieaicdihingkaa
namespace Go.Proofs.Ytieaicdihingkaa
set_option linter.unusedVariables false
set_option linter.unusedSimpArgs false
open Go.RowKit
theorem three_blocks (w W : World) (a b c : Obj) (h : ((w.alloc a).alloc b).alloc c = W) : W.heap[w.heap.size]? = some a ∧ W.heap[w.heap.size + 1]? = some b ∧ W.heap[w.heap.size + 1 + 1]? = some c ∧ Below w.heap.size w W := by
 subst h
 have h1 := alloc_at w a
 have h2 := alloc_at (w.alloc a) b
 have h3 := alloc_at ((w.alloc a).alloc b) c
 simp only [World.size_alloc] at h2 h3
 have n1 := below1 (w.alloc a) b
 have n2 := below1 ((w.alloc a).alloc b) c
 exact ⟨at_next n2 (at_next n1 h1), at_next n2 h2, h3, below_alloc (below_alloc (below1 w a) b) c⟩
/-- The words of a state. -/
structure WordsOk (m : Mach) : Prop where
 R : ∀ k, OkU16 (m.R k)
 pc : OkU16 m.pc
 sp : OkU16 m.sp
 fp : OkU16 m.fp
 f : OkU16 m.f
 bank : OkI64 m.bank
 steps : OkI64 m.steps
 inputs : OkI64 m.inputs
 polls : OkI64 m.polls
 out : m.out = []
theorem startM_words : WordsOk (startM 0) := ⟨fun _ => ok16_0, ok16_0, ⟨by decide, by decide⟩, ok16_0, ok16_0, ⟨by decide, by decide⟩, ⟨by decide, by decide⟩, ⟨by decide, by decide⟩, ⟨by decide, by decide⟩, rfl⟩
/-- A state that is being filled. -/
structure LaidS (W0 wr : World) (b xB : Nat) (S : ByteArray) (l : List Int) : Prop where
 bel : Below W0.heap.size W0 wr
 low : W0.heap.size ≤ xB
 ins : ∃ (m : Mach) (sv ov : Value), WordsOk m ∧ wr.heap[xB]? = some (.cells (snC m S sv ov) 43 (0, 0)) ∧ wr.ownsRow b 22 1 sv l.length (l.map (Value.int .u16)) ∧ wr.ownsRow b 54 2 ov 0 []
theorem LaidS.next {W0 wr W : World} {b xB : Nat} {S : ByteArray} {l : List Int} (h : LaidS W0 wr b xB S l) (hb : Below wr.heap.size wr W) : LaidS W0 W b xB S l := by
 obtain ⟨m, sv, ov, hm, hx, h1, h2⟩ := h.ins
 exact ⟨below_next h.bel hb, h.low, m, sv, ov, hm, at_next hb hx, own_next h1 hb, own_next h2 hb⟩
theorem LaidS.put {W0 wr : World} {b xB : Nat} {S S' : ByteArray} {l : List Int} (h : LaidS W0 wr b xB S l) (k : Nat) (v : Value) (hi : ∀ m sv ov, WordsOk m → ∃ m', WordsOk m' ∧ (snC m S sv ov).setIfInBounds k v = snC m' S' sv ov) : LaidS W0 (wr.setCell ⟨xB, k, none⟩ v) b xB S' l := by
 obtain ⟨m, sv, ov, hm, hx, h1, h2⟩ := h.ins
 obtain ⟨m', hm', e⟩ := hi m sv ov hm
 exact ⟨h.bel.setCell (p := ⟨xB, k, none⟩) h.low v, h.low, m', sv, ov, hm', by rw [sc_blk hx rfl, e], own_set' h1 hx (by decide), own_set' h2 hx (by decide)⟩
theorem LaidS.setR {W0 wr : World} {b xB : Nat} {S : ByteArray} {l : List Int} (h : LaidS W0 wr b xB S l) (k : Nat) (hk : k < 8) (x : Int) (hx : OkU16 x) : LaidS W0 (wr.setCell ⟨xB, k, none⟩ (.int .u16 x)) b xB S l :=
 h.put k _ fun m sv ov hm => ⟨{ m with R := fun i => if i = k then x else m.R i }, ⟨fun i => by dsimp only; split; exact hx; exact hm.R i, hm.pc, hm.sp, hm.fp, hm.f, hm.bank, hm.steps, hm.inputs, hm.polls, hm.out⟩, by
  match k, hk with
  | 0, _ => rfl
  | 1, _ => rfl
  | 2, _ => rfl
  | 3, _ => rfl
  | 4, _ => rfl
  | 5, _ => rfl
  | 6, _ => rfl
  | 7, _ => rfl⟩
theorem LaidS.setF {W0 wr : World} {b xB : Nat} {S : ByteArray} {l : List Int} (h : LaidS W0 wr b xB S l) (x : Int) (hx : OkU16 x) : LaidS W0 (wr.setCell ⟨xB, 11, none⟩ (.int .u16 x)) b xB S l :=
 h.put _ _ fun m sv ov hm => ⟨{ m with f := x }, ⟨hm.R, hm.pc, hm.sp, hm.fp, hx, hm.bank, hm.steps, hm.inputs, hm.polls, hm.out⟩, rfl⟩
theorem LaidS.setSp {W0 wr : World} {b xB : Nat} {S : ByteArray} {l : List Int} (h : LaidS W0 wr b xB S l) (x : Int) (hx : OkU16 x) : LaidS W0 (wr.setCell ⟨xB, 9, none⟩ (.int .u16 x)) b xB S l :=
 h.put _ _ fun m sv ov hm => ⟨{ m with sp := x }, ⟨hm.R, hm.pc, hx, hm.fp, hm.f, hm.bank, hm.steps, hm.inputs, hm.polls, hm.out⟩, rfl⟩
theorem LaidS.setBank {W0 wr : World} {b xB : Nat} {S : ByteArray} {l : List Int} (h : LaidS W0 wr b xB S l) (x : Int) (hx : OkI64 x) : LaidS W0 (wr.setCell ⟨xB, 12, none⟩ (.int .i64 x)) b xB S l :=
 h.put _ _ fun m sv ov hm => ⟨{ m with bank := x }, ⟨hm.R, hm.pc, hm.sp, hm.fp, hm.f, hx, hm.steps, hm.inputs, hm.polls, hm.out⟩, rfl⟩
theorem LaidS.setS {W0 wr : World} {b xB : Nat} {S : ByteArray} {l : List Int} (h : LaidS W0 wr b xB S l) (T : ByteArray) : LaidS W0 (wr.setCell ⟨xB, 16, none⟩ (.string T)) b xB T l :=
 h.put _ _ fun m sv ov hm => ⟨m, hm, rfl⟩
/-- An element is put behind the stack. -/
theorem LaidS.push {W0 wr W : World} {b xB : Nat} {S : ByteArray} {l : List Int} {m : Mach} {sv ov v : Value} {x : Int} (h : LaidS W0 wr b xB S l) (hm : WordsOk m) (hx : wr.heap[xB]? = some (.cells (snC m S sv ov) 43 (0, 0))) (h1 : wr.ownsRow b 22 1 sv l.length (l.map (Value.int .u16))) (h2 : wr.ownsRow b 54 2 ov 0 []) (hb0 : W0.heap.size ≤ b)
  (hown : W.ownsRow b 22 1 v (l.length + 1) (l.map (Value.int .u16) ++ [.int .u16 x])) (hg : wr.grownBy W sv.ownBlock) : LaidS W0 (W.setCell ⟨xB, 17, none⟩ v) b xB S (l ++ [x]) ∧ W.cell? ⟨xB, 17, none⟩ = some sv ∧ W.frozen? ⟨xB, 17, none⟩ = false := by
 have hnx : some xB ≠ sv.ownBlock := fun e => by
  obtain ⟨_, c, f, hk⟩ := own_kind h1 _ e.symm
  rw [hx] at hk
  simp at hk
 have hxW : W.heap[xB]? = some (.cells (snC m S sv ov) 43 (0, 0)) := (hg.block xB (at_lt hx) hnx).trans hx
 have h2W : W.ownsRow b 54 2 ov 0 [] := by
  refine h2.kept hg ?_
  cases e : ov.ownBlock with
  | none => exact .inl rfl
  | some q =>
   refine .inr fun e2 => ?_
   obtain ⟨_, c, f, hk⟩ := own_kind h2 _ e
   obtain ⟨_, c', f', hk'⟩ := own_kind h1 _ e2.symm
   rw [hk] at hk'
   simp at hk'
 refine ⟨⟨?_, h.low, m, v, ov, hm, by rw [sc_blk hxW rfl]; rfl, own_set' (by rw [List.length_append, List.map_append]; exact hown) hxW (by decide), own_set' h2W hxW (by decide)⟩, Lib.cell_of_heap hxW 17, at_fr hxW 17⟩
 refine Below.setCell ?_ (p := ⟨xB, 17, none⟩) h.low v
 exact below_grown h.bel h.bel.size hg (fun q hq => Nat.le_trans hb0 (h1.lt q hq).1)
theorem FivesAt.up {b b' : Nat} {w : World} {p : Option Addr} {n : Nat} (h : FivesAt b w p n) (hb : b ≤ b') : FivesAt b' w p n := h.imp id fun ⟨B, off, e, hB, hc⟩ => ⟨B, off, e, Nat.lt_of_lt_of_le hB hb, hc⟩
theorem FivesAt.tail {b : Nat} {w : World} {p : Option Addr} {n q cap : Nat} (h : FivesAt b w p n) (hq : q ≤ n) (hc : q = n ∨ q < cap) : FivesAt b w (if cap = q then p else Option.map (fun x => x.add (q * 5)) p) (n - q) := by
 rcases h with h | ⟨B, off, rfl, hB, h⟩
 ·exact .inl (by omega)
 rcases hc with hc | hc
 ·exact .inl (by omega)
 rw [if_neg (by omega)]
 refine .inr ⟨B, off + q * 5, ?_, hB, fun k hk => ?_⟩
 ·show some _ = _
  unfold Addr.add
  by_cases h0 : q * 5 = 0 <;> simp [h0]
 ·have h9 := h (q + k) (by omega)
  rw [show off + (q + k) * 5 = off + q * 5 + k * 5 by omega] at h9
  exact h9
theorem own_sl0 {w : World} {b e size : Nat} {v : Value} {xs : List Value} (h : w.ownsRow b e size v 0 xs) : ∃ p c, v = .slice p 0 c ∧ True := by
 rcases h.2 with ⟨rfl, h0⟩ | ⟨g, cap, cur, e1, _⟩
 ·exact ⟨none, 0, rfl, trivial⟩
 ·exact ⟨_, _, e1, trivial⟩
theorem row_two {W : World} {b A n m' : Nat} {c C : Array Value} {t : TypeId} {v u : Value} {xs ys : List Value} (ht : t ≠ 22 ∧ t ≠ 54) (hA : W.heap[A]? = some (.cells c t (0, 0))) (h1 : W.ownsRow b 22 1 v n xs) (h2 : W.ownsRow b 54 2 u m' ys) : (W.setRow A C).ownsRow b 22 1 v n xs ∧ (W.setRow A C).ownsRow b 54 2 u m' ys := by
 refine ⟨own_row h1 fun e => ?_, own_row h2 fun e => ?_⟩
 ·obtain ⟨_, c, f, hk⟩ := own_kind h1 _ e
  rw [hA] at hk; simp at hk; exact ht.1 hk.2.1
 ·obtain ⟨_, c, f, hk⟩ := own_kind h2 _ e
  rw [hA] at hk; simp at hk; exact ht.2 hk.2.1
theorem wp_ldrow {o : Oper} {a : Act} {Q : Exit → Act → World → Prop} {K : Act → World → Prop} {W : World} (t : TypeId) (x : Operand) (ho : o.op = .load t x) (N : Nat) (hx : a.eval x = .pointer (some ⟨N, 0, none⟩)) (C : Array Value) {e : TypeId}
  (hN : W.heap[N]? = some (.cells C e (0, 0))) {fs : Array Field} (hu : Try.prog.underlying t = some (.struct fs)) (hi : (Try.prog.info? t).map (·.size) = some C.size) (h : K (a.put o.dst (.agg C)) W) : o.wp Try.prog a W K Q := by
 have hl := run_loadVar_row (P := Try.prog) W N e t C (0, 0) _ hN hu rfl hi
 unfold Oper.wp execOp
 simp only [ho, hx, Instr.loadAt, Instr.sureAddr, Sem.run_bind, Sem.run_pure, Result.andThen_ok, hl]
 exact h
def laidE (g : Nat) (Bs : List ByteArray) (vec : Int) : Env := { imgE g ⟨#[]⟩ with banks := Bs, cb := 3, vector := vec }
/-- What Laid leaves. -/
structure LaidAt (w : World) (pb : Option Addr) (banks : List ByteArray) (vec : Int) (m : Mach) (S : ByteArray) (l : List Int) (p1 p2 : Option Addr) (c1 c2 : Nat) : Prop where
 strs : StrsLow w.heap.size w pb banks
 nb : banks.length = 3
 vec : OkU16 vec
 words : WordsOk m
 st : ∃ b, w.ownsRow b 22 1 (.slice p1 l.length c1) l.length (l.map (Value.int .u16))
 out : ∃ b, w.ownsRow b 54 2 (.slice p2 0 c2) 0 []
 ok : ∀ x ∈ l, OkU16 x
 len : 2 ≤ l.length ∧ l.length ≤ 9
 size : S.size = 8192
def LaidPost (w : World) (e : Ending) (w' : World) : Prop := ∃ pb banks cb vec m S l p1 p2 c1 c2, e = .returned (.tuple #[.agg #[.slice pb banks.length cb, .int .u16 0, .int .u16 vec, .slice none 0 0, .slice none 0 0], .agg (snC m S (.slice p1 l.length c1) (.slice p2 0 c2))]) ∧ LaidAt w' pb banks vec m S l p1 p2 c1 c2 ∧ Below w.heap.size w w'
theorem strs_three {w : World} {g : Nat} {A B C : ByteArray} (h : w.heap[g]? = some (.cells #[.string A, .string B, .string C] 9 (0, 0))) (ha : A.size ≤ maxLen) (hb : B.size ≤ maxLen) (hc : C.size ≤ maxLen) : StrsLow w.heap.size w (some ⟨g, 0, none⟩) [A, B, C] := fun k s hk => by
 match k with
 | 0 => obtain rfl : A = s := by simpa using hk
        exact ⟨g, rfl, at_lt h, Lib.cell_of_heap h 0, ha⟩
 | 1 => obtain rfl : B = s := by simpa using hk
        exact ⟨g, rfl, at_lt h, Lib.cell_of_heap h 1, hb⟩
 | 2 => obtain rfl : C = s := by simpa using hk
        exact ⟨g, rfl, at_lt h, Lib.cell_of_heap h 2, hc⟩
 | k + 3 => simp at hk
def StrN (n : Nat) (v : Value) (V : World) : Prop := ∃ S : ByteArray, v = .string S ∧ S.size = n
set_option maxRecDepth 20000 in
set_option maxHeartbeats 40000000 in
theorem laid_some (p : Option Addr) (n cap : Nat) (n0 n1 n2 n3 : Int) (w : World) (hp : FivesAt w.heap.size w p n) (hn : n ≤ 60) (hcap : n ≤ cap) : Calls Try.prog 40 #[.slice p n cap, .agg #[.int .i64 n0, .int .i64 n1, .int .i64 n2, .int .i64 n3]] w (LaidPost w) := by
 have HP := Lib.hid hp
 have HN := Lib.hid hn
 have HCAP := Lib.hid hcap
 obtain ⟨c63, h63, hc63⟩ := i64_mask n1 63 6 (by decide) (by decide)
 have h63 : bits .and .i64 n1 63 = (c63 : Int) := h63
 obtain ⟨c1, h1, hc1⟩ := i64_mask n0 1 1 (by decide) (by decide)
 have h1 : bits .and .i64 n0 1 = (c1 : Int) := h1
 obtain ⟨c7, h7, hc7⟩ := i64_mask n1 7 3 (by decide) (by decide)
 have h7 : bits .and .i64 n1 7 = (c7 : Int) := h7
 obtain ⟨cf, hf, hcf⟩ := i64_mask n2 4095 12 (by decide) (by decide)
 have hf : bits .and .i64 n2 4095 = (cf : Int) := hf
 obtain ⟨c15, h15, hc15⟩ := i64_mask n3 15 4 (by decide) (by decide)
 have h15 : bits .and .i64 n3 15 = (c15 : Int) := h15
 obtain ⟨d7, h07, hd7⟩ := i64_mask n0 7 3 (by decide) (by decide)
 have h07 : bits .and .i64 n0 7 = (d7 : Int) := h07
 have HC := Lib.hid (And.intro hc63 (And.intro hc1 (And.intro hc7 (And.intro hcf (And.intro hc15 hd7)))))
 clear hp hn hcap hc63 hc1 hc7 hcf hc15 hd7
 go_enter Try.func40, Try.ntmps40
 go_upto_region 1 with (fail)
 generalize e0 : ((w.alloc _).alloc _).alloc _ = W0
 obtain ⟨hq, hr, hr2, hb0⟩ := three_blocks _ _ _ _ _ e0
 have HQ : Hid (∀ W, Below W0.heap.size W0 W → W.cell? ⟨w.heap.size, 0, none⟩ = some (.int .i64 n0) ∧ W.cell? ⟨w.heap.size, 1, none⟩ = some (.int .i64 n1) ∧ W.cell? ⟨w.heap.size, 2, none⟩ = some (.int .i64 n2) ∧ W.cell? ⟨w.heap.size, 3, none⟩ = some (.int .i64 n3)) := Lib.hid fun W hW => by
  have hc := Lib.cell_of_heap (at_next hW hq)
  exact ⟨hc 0, hc 1, hc 2, hc 3⟩
 have HR1 := Lib.hid hr
 have HR2 := Lib.hid hr2
 have HB0 := Lib.hid hb0
 clear e0 hq hr hr2 hb0
 go_wp2_with fail
 go_loopw [6, 7] (fun s_ i_ wr => ∃ (k : Nat) (S : ByteArray), i_ = .int .i64 (k : Int) ∧ k ≤ 8 ∧ s_ = .string S ∧ S.size = 2 * k ∧ Below W0.heap.size W0 wr) (fun _ i_ _ => 8 - (intOf i_).toNat)
 case atStart => exact ⟨0, ⟨#[]⟩, rfl, Nat.zero_le _, rfl, rfl, Below.refl _ _⟩
 case round =>
  obtain ⟨k, S, rfl, hk, rfl, hS, hb⟩ := hrel
  have HS := Lib.hid hS
  have HB := Lib.hid hb
  have x2 : IntKind.i64.wrap ((k : Int) + 1) = (k : Int) + 1 := IntWalk.i64_in _ (by omega)
  obtain ⟨r0, r1, r2, r3⟩ := HQ.out wr HB.out
  clear hb hS
  by_cases hlt : k < 8
  ·have b1 : decide ((k : Int) < 8) = true := decide_eq_true (by omega)
   have b3 : decide (k < 8) = true := decide_eq_true hlt
   have HLT := Lib.hid hlt
   obtain ⟨y0, hy0⟩ : ∃ y0, IntKind.i64.wrap (7 * (k : Int)) = y0 := ⟨_, rfl⟩
   obtain ⟨y1, hy1⟩ : ∃ y1, IntKind.i64.wrap (y0 + (c63 : Int)) = y1 := ⟨_, rfl⟩
   obtain ⟨y2, hy2⟩ : ∃ y2, IntKind.u16.wrap y1 = y2 := ⟨_, rfl⟩
   have HY : Hid (OkU16 y2) := Lib.hid (hy2 ▸ u16_ok y1)
   clear hlt hk
   go_wp2_with fail
   refine (rput_any y2 _ HY.out.1 HY.out.2).mono ?_
   rintro e w3 ⟨T, rfl, hT, h3⟩
   have HT := Lib.hid hT
   have HB3 := Lib.hid (below_next HB.out h3)
   have z1 : ¬ 9223372036854775807 < S.size + T.size := by have := HS.out; have := HT.out; have := HLT.out; omega
   have t1 : (S ++ T : ByteArray).size = S.size + T.size := ByteArray.size_append
   clear hT h3 r0 r1 r2 r3
   go_wp2_with fail
   go_roundw
   case rel => exact ⟨k + 1, S ++ T, by go_num, HLT.out, rfl, by have := HS.out; have := HT.out; rw [ByteArray.size_append]; omega, HB3.out⟩
   case measure => have := HLT.out; simp only [intOf]; omega
  ·obtain rfl : k = 8 := by omega
   have b1 : decide (((8 : Nat) : Int) < 8) = false := by decide
   obtain ⟨Tb, rfl⟩ : ∃ Tb, Tb = S := ⟨_, rfl⟩
   have HTb : Hid (Tb.size = 16) := Lib.hid (by have := HS.out; omega)
   clear hlt hk x2 r0 r1 r2 r3 HS
   go_wp2_with fail
   refine (code_some p n cap _ ((HP.out.next (below_next HB0.out HB.out)).up (below_next HB0.out HB.out).size) HN.out).mono ?_
   rintro e w3 ⟨T, rfl, hT, h3⟩
   have HB3 := Lib.hid (below_next HB.out h3)
   have HT : Hid (T.size ≤ 1000000000000) := Lib.hid (by omega)
   clear hT h3
   go_wp2_with fail
   refine (page_any 0 T _ (by decide) HT.out).mono ?_
   rintro e w4 ⟨rfl, h4⟩
   obtain ⟨F, hF⟩ : ∃ F, pageB 0 T = F := ⟨_, rfl⟩
   have HF : Hid (F.size = 4096) := Lib.hid (hF ▸ pageB_size 0 T)
   rw [hF]
   have HB4 := Lib.hid (below_next HB3.out h4)
   clear h4 hF b1
   have HCS : Hid ((⟨#[145, 4, 9, 3]⟩ : ByteArray).size = 4) := Lib.hid rfl
   go_upto_region 7 with (fail)
   refine' wp_region_flowR [[], [(31, 0)], [(32, 1)], [], [(34, 3)], [(33, 2), (35, 4)], [], [(36, 5), (37, 6)], [], [], [(40, 9)], [(41, 10)], [(39, 8), (42, 11)], [(38, 7), (43, 12)], [(31, 0), (32, 1), (33, 2), (34, 3), (35, 4), (36, 5), (37, 6), (38, 7), (39, 8), (40, 9), (41, 10), (42, 11), (43, 12), (44, 13)]] (relL [eqV _, StrN 700, StrN 704, eqV _, StrN 296, StrN 1000, eqV _, StrN 1016, eqV _, eqV _, eqV _, eqV _, StrN 3080, StrN 4096]) (by kernel_rfl) (by kernel_rfl) ?_
   rotate_left 7
   refine FlowR.step ?_ ?_
   ·intro V3 hV
    simp only [Dep, lQ]
    intro K hK
    have hTb := HTb.out
    have hF := HF.out
    have x9 : IntKind.i64.wrap 1016 = 1016 := by decide
    go_simp
    refine hK _ _ ?_ (Below.refl _ _)
    simp only [lR]
    exact rfl
   refine FlowR.step ?_ ?_
   ·intro V3 hV
    simp only [Dep, lQ]
    rintro x31 ⟨V31, rfl, hb31⟩
    intro K hK
    have hF := HF.out
    go_simp
    refine hK _ _ ⟨_, rfl, ?_⟩ (Below.refl _ _)
    rw [ByteArray.size_extract]
    have := HF.out
    omega
   refine FlowR.step ?_ ?_
   ·intro V3 hV
    simp only [Dep, lQ]
    rintro x32 ⟨V32, ⟨S32, rfl, hS32⟩, hb32⟩
    intro K hK
    have z1 : ¬ 9223372036854775807 < (S32 : ByteArray).size + (⟨#[145, 4, 9, 3]⟩ : ByteArray).size := by have := hS32; have := HTb.out; have := HCS.out; omega
    have t1 := HCS.out
    have hTb := HTb.out
    go_simp
    refine hK _ _ ⟨_, rfl, ?_⟩ (Below.refl _ _)
    rw [ByteArray.size_append]
    have := hS32; have := HTb.out; have := HCS.out; omega
   refine FlowR.step ?_ ?_
   ·intro V3 hV
    simp only [Dep, lQ]
    intro K hK
    have hTb := HTb.out
    have hF := HF.out
    have x9 : IntKind.i64.wrap 1016 = 1016 := by decide
    go_simp
    refine hK _ _ ?_ (Below.refl _ _)
    simp only [lR]
    exact rfl
   refine FlowR.step ?_ ?_
   ·intro V3 hV
    simp only [Dep, lQ]
    rintro x34 ⟨V34, rfl, hb34⟩
    intro K hK
    have hF := HF.out
    go_simp
    refine hK _ _ ⟨_, rfl, ?_⟩ (Below.refl _ _)
    rw [ByteArray.size_extract]
    have := HF.out
    omega
   refine FlowR.step ?_ ?_
   ·intro V3 hV
    simp only [Dep, lQ]
    rintro x33 ⟨V33, ⟨S33, rfl, hS33⟩, hb33⟩
    rintro x35 ⟨V35, ⟨S35, rfl, hS35⟩, hb35⟩
    intro K hK
    have z1 : ¬ 9223372036854775807 < (S33 : ByteArray).size + (S35 : ByteArray).size := by have := hS33; have := hS35; have := HTb.out; have := HCS.out; omega
    have t1 := HCS.out
    have hTb := HTb.out
    go_simp
    refine hK _ _ ⟨_, rfl, ?_⟩ (Below.refl _ _)
    rw [ByteArray.size_append]
    have := hS33; have := hS35; have := HTb.out; have := HCS.out; omega
   refine FlowR.step ?_ ?_
   ·intro V3 hV
    simp only [Dep, lQ]
    intro K hK
    have hTb := HTb.out
    have hF := HF.out
    have x9 : IntKind.i64.wrap 1016 = 1016 := by decide
    go_simp
    refine hK _ _ ?_ (Below.refl _ _)
    simp only [lR]
    exact rfl
   refine FlowR.step ?_ ?_
   ·intro V3 hV
    simp only [Dep, lQ]
    rintro x36 ⟨V36, ⟨S36, rfl, hS36⟩, hb36⟩
    rintro x37 ⟨V37, rfl, hb37⟩
    intro K hK
    have z1 : ¬ 9223372036854775807 < (S36 : ByteArray).size + (Tb : ByteArray).size := by have := hS36; have := HTb.out; have := HCS.out; omega
    have t1 := HCS.out
    have hTb := HTb.out
    go_simp
    refine hK _ _ ⟨_, rfl, ?_⟩ (Below.refl _ _)
    rw [ByteArray.size_append]
    have := hS36; have := HTb.out; have := HCS.out; omega
   iterate 4
    refine FlowR.step ?_ ?_
    ·intro V3 hV
     simp only [Dep, lQ]
     repeat rintro _ ⟨_, rfl, _⟩
     intro K hK
     have hTb := HTb.out
     have hF := HF.out
     have x9 : IntKind.i64.wrap 1016 = 1016 := by decide
     go_simp
     refine hK _ _ ?_ (Below.refl _ _)
     simp only [lR]
     exact rfl
   refine FlowR.step ?_ ?_
   ·intro V3 hV
    simp only [Dep, lQ]
    rintro x39 ⟨V39, rfl, hb39⟩
    rintro x42 ⟨V42, rfl, hb42⟩
    intro K hK
    have hF := HF.out
    go_simp
    refine hK _ _ ⟨_, rfl, ?_⟩ (Below.refl _ _)
    rw [ByteArray.size_extract]
    have := HF.out
    omega
   refine FlowR.step ?_ ?_
   ·intro V3 hV
    simp only [Dep, lQ]
    rintro x38 ⟨V38, ⟨S38, rfl, hS38⟩, hb38⟩
    rintro x43 ⟨V43, ⟨S43, rfl, hS43⟩, hb43⟩
    intro K hK
    have z1 : ¬ 9223372036854775807 < (S38 : ByteArray).size + (S43 : ByteArray).size := by have := hS38; have := hS43; have := HTb.out; have := HCS.out; omega
    have t1 := HCS.out
    have hTb := HTb.out
    go_simp
    refine hK _ _ ⟨_, rfl, ?_⟩ (Below.refl _ _)
    rw [ByteArray.size_append]
    have := hS38; have := hS43; have := HTb.out; have := HCS.out; omega
   refine FlowR.last ?_
   intro V3 hV
   simp only [Dep, lQ]
   rintro x31 ⟨V31, rfl, hb31⟩
   rintro x32 ⟨V32, ⟨S32, rfl, hS32⟩, hb32⟩
   rintro x33 ⟨V33, ⟨S33, rfl, hS33⟩, hb33⟩
   rintro x34 ⟨V34, rfl, hb34⟩
   rintro x35 ⟨V35, ⟨S35, rfl, hS35⟩, hb35⟩
   rintro x36 ⟨V36, ⟨S36, rfl, hS36⟩, hb36⟩
   rintro x37 ⟨V37, rfl, hb37⟩
   rintro x38 ⟨V38, ⟨S38, rfl, hS38⟩, hb38⟩
   rintro x39 ⟨V39, rfl, hb39⟩
   rintro x40 ⟨V40, rfl, hb40⟩
   rintro x41 ⟨V41, rfl, hb41⟩
   rintro x42 ⟨V42, rfl, hb42⟩
   rintro x43 ⟨V43, ⟨S43, rfl, hS43⟩, hb43⟩
   rintro x44 ⟨V44, ⟨S44, rfl, hS44⟩, hb44⟩
   intro K hK
   go_simp
   refine hK _ _ ?_
   obtain ⟨F1, rfl⟩ : ∃ F1, F1 = S44 := ⟨_, rfl⟩
   have HF1 := Lib.hid hS44
   have HB5 := Lib.hid (below_next HB4.out hV)
   clear hS44 hS32 hS33 hS35 hS36 hS38 hS43 hK hV HF HB4 HB3
   obtain ⟨q, hq⟩ : ∃ q, min n 20 = q := ⟨_, rfl⟩
   have HQN : Hid (q ≤ n ∧ (q = 20 ∨ q = n)) := Lib.hid (by omega)
   have mA : (if (20 : Int) < (n : Int) then (20 : Int) else (n : Int)) = (q : Int) := by split <;> omega
   have mB : (if 20 < n then (20 : Int) else (n : Int)) = (q : Int) := by split <;> omega
   have m0 : (0 : Int) ≤ (q : Int) := by omega
   have m1 : (q : Int) ≤ (n : Int) := by omega
   have m2 : (n : Int) ≤ (cap : Int) := by have := HCAP.out; omega
   have m3 : n ≤ cap := HCAP.out
   have m4 : q ≤ n := by omega
   clear hq
   go_upto_region 8 with (fail)
   have HT9 : Hid (cap ≠ q → FivesAt V3.heap.size V3 (Option.map (fun x => x.add (q * 5)) p) (n - q)) := Lib.hid fun hne => by
    have h9 := ((HP.out.next (below_next HB0.out HB5.out)).up (below_next HB0.out HB5.out).size).tail (cap := cap) HQN.out.1 (by have := HQN.out; have := HCAP.out; omega)
    rw [if_neg hne] at h9
    exact h9
   go_cut [9] (fun s9 wx => ∃ F : ByteArray, s9 = .string F ∧ F.size = 4096 ∧ Below W0.heap.size W0 wx)
   case first =>
    by_cases hcq : cap = q
    all_goals
     have HCQ := Lib.hid hcq
     first | have hcz := eq_true hcq | have hcz := eq_false hcq
     clear hcq
     go_wp2_with fail
     refine (code_some _ _ _ _ (by first | exact .inl (by have := HQN.out; have := HCAP.out; have := HCQ.out; omega) | exact HT9.out HCQ.out) (by have := HN.out; omega)).mono ?_
     rintro e w6 ⟨T2, rfl, hT2, h6⟩
     have HB6 := Lib.hid (below_next HB5.out h6)
     have HT2 : Hid (T2.size ≤ 1000000000000) := Lib.hid (by omega)
     clear hT2 h6
     go_wp2_with fail
     refine (page_any 0 T2 _ (by decide) HT2.out).mono ?_
     rintro e w7 ⟨rfl, h7⟩
     have HB7 := Lib.hid (below_next HB6.out h7)
     clear h7
     go_wp2_with fail
     go_meet
     exact ⟨_, rfl, pageB_size 0 T2, HB7.out⟩
   case rest =>
   obtain ⟨F, rfl, hF, hb7⟩ := hcut
   have HF := Lib.hid hF
   have HB7 := Lib.hid hb7
   clear hF hb7 mA mB m0 m1 m2 m3 m4 HT9
   go_upto_region 9 with (fail)
   refine' wp_region_flowR [[], [(52, 0)], [], [(53, 1), (54, 2)], [], [], [(57, 5)], [(58, 6)], [(56, 4), (59, 7)], [(55, 3), (60, 8)], [(52, 0), (53, 1), (54, 2), (55, 3), (56, 4), (57, 5), (58, 6), (59, 7), (60, 8), (61, 9)]] (relL [eqV _, StrN 1000, eqV _, StrN 1016, eqV _, eqV _, eqV _, eqV _, StrN 3080, StrN 4096]) (by kernel_rfl) (by kernel_rfl) ?_
   rotate_left 6
   refine FlowR.step ?_ ?_
   ·intro V3 hV
    simp only [Dep, lQ]
    intro K hK
    have hTb := HTb.out
    have hF := HF.out
    have x9 : IntKind.i64.wrap 1016 = 1016 := by decide
    go_simp
    refine hK _ _ ?_ (Below.refl _ _)
    simp only [lR]
    exact rfl
   refine FlowR.step ?_ ?_
   ·intro V3 hV
    simp only [Dep, lQ]
    rintro x52 ⟨V52, rfl, hb52⟩
    intro K hK
    have hF := HF.out
    go_simp
    refine hK _ _ ⟨_, rfl, ?_⟩ (Below.refl _ _)
    rw [ByteArray.size_extract]
    have := HF.out
    omega
   refine FlowR.step ?_ ?_
   ·intro V3 hV
    simp only [Dep, lQ]
    intro K hK
    have hTb := HTb.out
    have hF := HF.out
    have x9 : IntKind.i64.wrap 1016 = 1016 := by decide
    go_simp
    refine hK _ _ ?_ (Below.refl _ _)
    simp only [lR]
    exact rfl
   refine FlowR.step ?_ ?_
   ·intro V3 hV
    simp only [Dep, lQ]
    rintro x53 ⟨V53, ⟨S53, rfl, hS53⟩, hb53⟩
    rintro x54 ⟨V54, rfl, hb54⟩
    intro K hK
    have z1 : ¬ 9223372036854775807 < (S53 : ByteArray).size + (Tb : ByteArray).size := by have := hS53; have := HTb.out; have := HCS.out; omega
    have t1 := HCS.out
    have hTb := HTb.out
    go_simp
    refine hK _ _ ⟨_, rfl, ?_⟩ (Below.refl _ _)
    rw [ByteArray.size_append]
    have := hS53; have := HTb.out; have := HCS.out; omega
   iterate 4
    refine FlowR.step ?_ ?_
    ·intro V3 hV
     simp only [Dep, lQ]
     repeat rintro _ ⟨_, rfl, _⟩
     intro K hK
     have hTb := HTb.out
     have hF := HF.out
     have x9 : IntKind.i64.wrap 1016 = 1016 := by decide
     go_simp
     refine hK _ _ ?_ (Below.refl _ _)
     simp only [lR]
     exact rfl
   refine FlowR.step ?_ ?_
   ·intro V3 hV
    simp only [Dep, lQ]
    rintro x56 ⟨V56, rfl, hb56⟩
    rintro x59 ⟨V59, rfl, hb59⟩
    intro K hK
    have hF := HF.out
    go_simp
    refine hK _ _ ⟨_, rfl, ?_⟩ (Below.refl _ _)
    rw [ByteArray.size_extract]
    have := HF.out
    omega
   refine FlowR.step ?_ ?_
   ·intro V3 hV
    simp only [Dep, lQ]
    rintro x55 ⟨V55, ⟨S55, rfl, hS55⟩, hb55⟩
    rintro x60 ⟨V60, ⟨S60, rfl, hS60⟩, hb60⟩
    intro K hK
    have z1 : ¬ 9223372036854775807 < (S55 : ByteArray).size + (S60 : ByteArray).size := by have := hS55; have := hS60; have := HTb.out; have := HCS.out; omega
    have t1 := HCS.out
    have hTb := HTb.out
    go_simp
    refine hK _ _ ⟨_, rfl, ?_⟩ (Below.refl _ _)
    rw [ByteArray.size_append]
    have := hS55; have := hS60; have := HTb.out; have := HCS.out; omega
   refine FlowR.last ?_
   intro V3 hV
   simp only [Dep, lQ]
   rintro x52 ⟨V52, rfl, hb52⟩
   rintro x53 ⟨V53, ⟨S53, rfl, hS53⟩, hb53⟩
   rintro x54 ⟨V54, rfl, hb54⟩
   rintro x55 ⟨V55, ⟨S55, rfl, hS55⟩, hb55⟩
   rintro x56 ⟨V56, rfl, hb56⟩
   rintro x57 ⟨V57, rfl, hb57⟩
   rintro x58 ⟨V58, rfl, hb58⟩
   rintro x59 ⟨V59, rfl, hb59⟩
   rintro x60 ⟨V60, ⟨S60, rfl, hS60⟩, hb60⟩
   rintro x61 ⟨V61, ⟨S61, rfl, hS61⟩, hb61⟩
   intro K hK
   go_simp
   refine hK _ _ ?_
   obtain ⟨F2, rfl⟩ : ∃ F2, F2 = S61 := ⟨_, rfl⟩
   have HF2 := Lib.hid hS61
   have HB8 := Lib.hid (below_next HB7.out hV)
   clear hS61 hS53 hS55 hS60 hK hV HF HB7 HB5
   obtain ⟨r0, r1, r2, r3⟩ := HQ.out _ HB8.out
   obtain ⟨y2, hy2⟩ : ∃ y2, IntKind.u32.wrap n2 = y2 := ⟨_, rfl⟩
   have HY2 : Hid (0 ≤ y2 ∧ y2 < 4294967296) := Lib.hid (by rw [← hy2, IntKind.wrap_u32]; omega)
   go_wp2_with fail
   refine (fill_some y2 4096 _ HY2.out.1 HY2.out.2 (by decide)).mono ?_
   rintro e w9 ⟨F3, rfl, hF3, h9⟩
   have HF3 := Lib.hid hF3
   have HB9 := Lib.hid (below_next HB8.out h9)
   clear hF3 h9 r0 r1 r2 r3 hy2
   go_upto_region 11 with (fail)
   generalize eX : (w9.alloc _).alloc _ = WX
   have HG0 : Hid (WX.heap[w9.heap.size]? = some (.cells #[.string F1, .string F2, .string F3] 9 (0, 0))) := Lib.hid (eX ▸ blk_mid1 w9 _ _)
   have HI0 : Hid (WX.heap[w9.heap.size + 1]? = some (.cells #[.slice (some ⟨w9.heap.size, 0, none⟩) 3 3, .int .u16 0, .int .u16 0, .slice none 0 0, .slice none 0 0] 35 (0, 0))) := Lib.hid (by
    have h9 := alloc_at (w9.alloc (.cells #[.string F1, .string F2, .string F3] 9)) (.cells #[.slice (some ⟨w9.heap.size, 0, none⟩) 3 3, .int .u16 0, .int .u16 0, .slice none 0 0, .slice none 0 0] 35)
    rw [World.size_alloc] at h9
    rw [← eX]
    exact h9)
   have HBX : Hid (Below W0.heap.size W0 WX) := Lib.hid (eX ▸ below_alloc (below_alloc HB9.out _) _)
   clear eX
   obtain ⟨r0, r1, r2, r3⟩ := HQ.out WX HBX.out
   obtain ⟨bb, hbb⟩ : ∃ b, ((c1 : Int) == 1) = b := ⟨_, rfl⟩
   have y2' : WX.cell? ⟨w9.heap.size + 1, 2, none⟩ = some (.int .u16 0) := Lib.cell_of_heap HI0.out 2
   have z2' := at_fr HI0.out 2
   go_upto_if 73 with (fail)
   go_cut [] (fun wx => ∃ vec : Int, OkU16 vec ∧ wx.heap[w9.heap.size + 1]? = some (.cells #[.slice (some ⟨w9.heap.size, 0, none⟩) 3 3, .int .u16 0, .int .u16 vec, .slice none 0 0, .slice none 0 0] 35 (0, 0)) ∧ wx.heap[w9.heap.size]? = some (.cells #[.string F1, .string F2, .string F3] 9 (0, 0)) ∧ Below W0.heap.size W0 wx)
   case first =>
    cases bb
    ·go_wp2_with fail
     go_meet
     exact ⟨0, ok16_0, HI0.out, HG0.out, HBX.out⟩
    ·go_wp2_with fail
     go_meet
     exact ⟨700, ⟨by decide, by decide⟩, sc_blk HI0.out rfl, sc_oth (A := w9.heap.size + 1) (by omega) HG0.out rfl, HBX.out.setCell (p := ⟨w9.heap.size + 1, 2, none⟩) (Nat.le_trans HB9.out.size (Nat.le_succ _)) _⟩
   case rest =>
   obtain ⟨vec, hvec, hi, hg, hbx⟩ := hcut
   obtain ⟨WY, rfl⟩ : ∃ WY, WY = wc := ⟨_, rfl⟩
   have HVEC := Lib.hid hvec
   have HI := Lib.hid hi
   have HG := Lib.hid hg
   have HBY := Lib.hid hbx
   clear hvec hi hg hbx y2' z2' r0 r1 r2 r3 hbb HI0 HG0
   go_wp2_with (refine wpList_load_row 35 _ rfl rfl (w9.heap.size + 1) rfl #[.slice (some ⟨w9.heap.size, 0, none⟩) 3 3, .int .u16 0, .int .u16 vec, .slice none 0 0, .slice none 0 0] HI.out Try.underlying35 info35 ?_)
   refine (refStart_any (E := laidE w9.heap.size [F1, F2, F3] vec) ⟨strs_three HG.out (by rw [HF1.out]; decide) (by rw [HF2.out]; decide) (by rw [HF3.out]; decide), (show 3 ≤ maxLen by decide), ok16_0, HVEC.out⟩).mono ?_
   rintro e w13 ⟨C13, rfl, hs13, h13⟩
   obtain ⟨p1, c1', p2, c2', rfl, hin13⟩ := hs13.cells
   obtain ⟨RS, hRS⟩ : ∃ RS, ramS (fun _ => 0) = RS := ⟨_, rfl⟩
   rw [hRS]
   have HH13 := Lib.hid h13
   have HIN13 := Lib.hid hin13
   clear hs13 h13 hin13 hRS
   go_wp2_with (refine wpList_store_row 43 _ _ rfl rfl w13.heap.size rfl (snC (startM 0) RS (.slice p1 2 c1') (.slice p2 0 c2')) rfl (alloc_at w13 _) info43 rfl (snC_one _ _ _ _ _ _ _ _) ?_; refine Hid.out ?_)
   generalize eS : World.setRow _ _ _ = WS
   have HL : Hid (LaidS WY WS WY.heap.size w13.heap.size RS [0, 65535]) := Lib.hid (by
    have h := law_start HH13.out HIN13.out rfl eS
    exact ⟨h.bel, h.low, startM 0, _, _, startM_words, h.x, h.snap.st, h.snap.out⟩)
   refine Lib.hid ?_
   clear eS HH13 HIN13
   have HBS := Lib.hid (below_next HBY.out HL.out.bel)
   obtain ⟨r0, r1, r2, r3⟩ := HQ.out WS HBS.out
   obtain ⟨y3, hy3⟩ : ∃ y3, IntKind.u32.wrap n3 = y3 := ⟨_, rfl⟩
   have HY3 : Hid (0 ≤ y3 ∧ y3 < 4294967296) := Lib.hid (by rw [← hy3, IntKind.wrap_u32]; omega)
   go_wp2_with fail
   refine (fill_some y3 8192 _ HY3.out.1 HY3.out.2 (by decide)).mono ?_
   rintro e w14 ⟨F4, rfl, hF4, h14⟩
   have HF4 := Lib.hid hF4
   have HL14 := Lib.hid (HL.out.next h14)
   clear hF4 h14 r0 r1 r2 r3 hy3
   obtain ⟨m, sv, ov, hm, hx, ho1, ho2⟩ := HL14.out.ins
   have c16 : w14.cell? ⟨w13.heap.size, 16, none⟩ = some (.string RS) := Lib.cell_of_heap hx 16
   have z16 := at_fr hx 16
   clear hm hx ho1 ho2
   go_upto_region 15 with (fail)
   generalize e15 : World.setCell _ _ _ = W15
   have HL15 : Hid (LaidS WY W15 WY.heap.size w13.heap.size F4 [0, 65535]) := Lib.hid (e15 ▸ HL14.out.setS F4)
   clear e15 c16 z16 HL HL14
   go_wp2_with fail
   go_loopw [12] (fun i_ wr => ∃ k : Nat, i_ = .int .i64 (k : Int) ∧ k ≤ 8 ∧ LaidS WY wr WY.heap.size w13.heap.size F4 [0, 65535]) (fun i_ _ => 8 - (intOf i_).toNat)
   case atStart => exact ⟨0, rfl, Nat.zero_le _, HL15.out⟩
   case round =>
    obtain ⟨k, rfl, hk, hl⟩ := hrel
    have HL := Lib.hid hl
    have HBW := Lib.hid (below_next HBY.out HL.out.bel)
    obtain ⟨r0, r1, r2, r3⟩ := HQ.out wr HBW.out
    have x2 : IntKind.i64.wrap ((k : Int) + 1) = (k : Int) + 1 := IntWalk.i64_in _ (by omega)
    clear hl
    by_cases hlt : k < 8
    ·have b1 : decide ((k : Int) < 8) = true := decide_eq_true (by omega)
     have b3 : decide (k < 8) = true := decide_eq_true hlt
     have HLT := Lib.hid hlt
     obtain ⟨j, hj⟩ : ∃ j, k % 4 = j := ⟨_, rfl⟩
     have hj4 : j < 4 := by omega
     have qm : (k : Int).tmod 4 = (j : Int) := by rw [Int.tmod_eq_emod_of_nonneg (by omega), ← hj]; simp
     have qm' : (k : Int) % 4 = (j : Int) := by rw [← hj]; simp
     obtain ⟨x, hx⟩ : ∃ x : Int, wr.cell? ⟨w.heap.size, j, none⟩ = some (.int .i64 x) := by
      match j, hj4 with
      | 0, _ => exact ⟨_, r0⟩
      | 1, _ => exact ⟨_, r1⟩
      | 2, _ => exact ⟨_, r2⟩
      | 3, _ => exact ⟨_, r3⟩
     obtain ⟨y0, hy0⟩ : ∃ y0, IntKind.i64.wrap (x * ((k : Int) + 1)) = y0 := ⟨_, rfl⟩
     obtain ⟨y1, hy1⟩ : ∃ y1, IntKind.u16.wrap y0 = y1 := ⟨_, rfl⟩
     have HY : Hid (OkU16 y1) := Lib.hid (hy1 ▸ u16_ok y0)
     obtain ⟨m, sv, ov, hm, hxx, ho1, ho2⟩ := HL.out.ins
     have ck : wr.cell? ⟨w13.heap.size, k, none⟩ = some (.int .u16 (m.R k)) := by
      rw [Lib.cell_of_heap hxx k]
      match k, hlt with
      | 0, _ => rfl
      | 1, _ => rfl
      | 2, _ => rfl
      | 3, _ => rfl
      | 4, _ => rfl
      | 5, _ => rfl
      | 6, _ => rfl
      | 7, _ => rfl
     have zk := at_fr hxx k
     have i0 : (0 : Int) ≤ (j : Int) := by omega
     have i1 : (j : Int) < 4 := by omega
     have i2 : (0 : Int) ≤ (k : Int) := by omega
     have i3 : (k : Int) < 8 := by omega
     clear hj hj4 r0 r1 r2 r3 hm hxx ho1 ho2 hk hlt
     go_wp2_with fail
     go_roundw
     case rel => exact ⟨k + 1, by go_num, HLT.out, HL.out.setR k HLT.out y1 HY.out⟩
     case measure => have := HLT.out; simp only [intOf]; omega
    ·obtain rfl : k = 8 := by omega
     rw [show ((8 : Nat) : Int) = 8 from rfl]
     clear hlt hk x2
     obtain ⟨m, sv, ov, hm, hxx, ho1, ho2⟩ := HL.out.ins
     have ck : wr.cell? ⟨w13.heap.size, 5, none⟩ = some (.int .u16 (m.R 5)) := Lib.cell_of_heap hxx 5
     have zk := at_fr hxx 5
     clear hm hxx ho1 ho2
     obtain ⟨y5, hy5⟩ : ∃ y, IntKind.u16.wrap (c7 : Int) = y := ⟨_, rfl⟩
     have HY5 : Hid (OkU16 y5) := Lib.hid (hy5 ▸ u16_ok _)
     go_upto_region 20 with (fail)
     generalize eW : World.setCell _ _ _ = W21
     have HL1 : Hid (LaidS WY W21 WY.heap.size w13.heap.size F4 [0, 65535]) := Lib.hid (eW ▸ HL.out.setR 5 (by decide) y5 HY5.out)
     clear eW ck zk m sv ov r0 r1 r2 r3
     obtain ⟨r0, r1, r2, r3⟩ := HQ.out W21 (below_next HBY.out HL1.out.bel)
     obtain ⟨m, sv, ov, hm, hxx, ho1, ho2⟩ := HL1.out.ins
     have ck : W21.cell? ⟨w13.heap.size, 6, none⟩ = some (.int .u16 (m.R 6)) := Lib.cell_of_heap hxx 6
     have zk := at_fr hxx 6
     clear hm hxx ho1 ho2
     obtain ⟨y6, hy6⟩ : ∃ y, IntKind.u16.wrap (cf : Int) = y := ⟨_, rfl⟩
     obtain ⟨y7, hy7⟩ : ∃ y, IntKind.u16.wrap (16384 + y6) = y := ⟨_, rfl⟩
     have HY7 : Hid (OkU16 y7) := Lib.hid (hy7 ▸ u16_ok _)
     go_upto_region 21 with (fail)
     generalize eW : World.setCell _ _ _ = W22
     have HL2 : Hid (LaidS WY W22 WY.heap.size w13.heap.size F4 [0, 65535]) := Lib.hid (eW ▸ HL1.out.setR 6 (by decide) y7 HY7.out)
     clear eW ck zk m sv ov r0 r1 r2 r3
     obtain ⟨r0, r1, r2, r3⟩ := HQ.out W22 (below_next HBY.out HL2.out.bel)
     obtain ⟨m, sv, ov, hm, hxx, ho1, ho2⟩ := HL2.out.ins
     have ck : W22.cell? ⟨w13.heap.size, 11, none⟩ = some (.int .u16 m.f) := Lib.cell_of_heap hxx 11
     have zk := at_fr hxx 11
     clear hm hxx ho1 ho2
     obtain ⟨y8, hy8⟩ : ∃ y, IntKind.u16.wrap (c15 : Int) = y := ⟨_, rfl⟩
     have HY8 : Hid (OkU16 y8) := Lib.hid (hy8 ▸ u16_ok _)
     go_upto_region 22 with (fail)
     generalize eW : World.setCell _ _ _ = W23
     have HL3 : Hid (LaidS WY W23 WY.heap.size w13.heap.size F4 [0, 65535]) := Lib.hid (eW ▸ HL2.out.setF y8 HY8.out)
     clear eW ck zk m sv ov r0 r1 r2 r3
     obtain ⟨r0, r1, r2, r3⟩ := HQ.out W23 (below_next HBY.out HL3.out.bel)
     obtain ⟨m, sv, ov, hm, hxx, ho1, ho2⟩ := HL3.out.ins
     have ck : W23.cell? ⟨w13.heap.size, 12, none⟩ = some (.int .i64 m.bank) := Lib.cell_of_heap hxx 12
     have zk := at_fr hxx 12
     clear hm hxx ho1 ho2
     go_upto_region 23 with (fail)
     generalize eW : World.setCell _ _ _ = W24
     have HL4 : Hid (LaidS WY W24 WY.heap.size w13.heap.size F4 [0, 65535]) := Lib.hid (eW ▸ HL3.out.setBank 1 ⟨by decide, by decide⟩)
     clear eW ck zk m sv ov r0 r1 r2 r3
     obtain ⟨r0, r1, r2, r3⟩ := HQ.out W24 (below_next HBY.out HL4.out.bel)
     clear HL HL1 HL2 HL3 r0 r1 r2 r3
     go_wp2_with fail
     obtain ⟨i22, hi2, hz2, hs2, hb2⟩ : ∃ i22, Try.prog.info? 22 = some i22 ∧ i22.zero = some (.int .u16 0) ∧ i22.size = 1 ∧ i22.bytes = 2 := by
      have := info22
      cases h : Try.prog.info? 22 with
      | none => rw [h] at this; cases this
      | some x => rw [h] at this; simp at this; exact ⟨x, rfl, this⟩
     have KN := Lib.hid (And.intro hi2 (And.intro hz2 (And.intro hs2 hb2)))
     have HD7 : Hid (d7 < 8) := Lib.hid HC.out.2.2.2.2.2
     clear hi2 hz2 hs2 hb2
     go_loopw [13] (fun i_ wr => ∃ (k : Nat) (l : List Int), i_ = .int .i64 (k : Int) ∧ k ≤ d7 ∧ l.length = 2 + k ∧ (∀ x ∈ l, OkU16 x) ∧ LaidS WY wr WY.heap.size w13.heap.size F4 l) (fun i_ _ => d7 - (intOf i_).toNat)
     case atStart => exact ⟨0, [0, 65535], rfl, Nat.zero_le _, rfl, by intro x hx; simp at hx; rcases hx with rfl | rfl <;> exact ⟨by decide, by decide⟩, HL4.out⟩
     case round =>
      obtain ⟨k, l, rfl, hk, hlen, hlok, hl⟩ := hrel
      have HL := Lib.hid hl
      have HLEN := Lib.hid hlen
      have HLOK := Lib.hid hlok
      have HBW := Lib.hid (below_next HBY.out HL.out.bel)
      obtain ⟨r0, r1, r2, r3⟩ := HQ.out _ HBW.out
      have x2 : IntKind.i64.wrap ((k : Int) + 1) = (k : Int) + 1 := IntWalk.i64_in _ (by have := HD7.out; omega)
      clear hl hlen hlok
      by_cases hlt : k < d7
      ·have b1 : decide ((k : Int) < (d7 : Int)) = true := decide_eq_true (by omega)
       have b3 : decide (k < d7) = true := decide_eq_true hlt
       have HLT := Lib.hid hlt
       obtain ⟨y0, hy0⟩ : ∃ y0, IntKind.i64.wrap (n1 + (k : Int)) = y0 := ⟨_, rfl⟩
       obtain ⟨y1, hy1⟩ : ∃ y1, IntKind.u16.wrap y0 = y1 := ⟨_, rfl⟩
       have HY : Hid (OkU16 y1) := Lib.hid (hy1 ▸ u16_ok y0)
       obtain ⟨m, sv, ov, hm, hxx, ho1, ho2⟩ := HL.out.ins
       have HM := Lib.hid hm
       have HXX := Lib.hid hxx
       have HO1 := Lib.hid ho1
       have HO2 := Lib.hid ho2
       have c17 : wr.cell? ⟨w13.heap.size, 17, none⟩ = some sv := Lib.cell_of_heap hxx 17
       have HA := Lib.hid (fun (W : World) (v : Value) (hown : W.ownsRow WY.heap.size 22 1 v (l.length + 1) (l.map (Value.int .u16) ++ [.int .u16 y1])) (hg : World.grownBy (wr.alloc (Obj.cells #[.int .u16 y1] 22)) W sv.ownBlock) => (HL.out.next (below1 wr _)).push hm (at_next (below1 wr _) hxx) (own_next ho1 (below1 wr _)) (own_next ho2 (below1 wr _)) (Nat.le_refl _) (W := W) hown hg)
       clear hm hxx ho1 ho2 hk hlt
       go_wp2_with (at_builtin; refine Hid.out ?_)
       refine Lib.hid ?_
       refine wpList_append_own _ rfl _ _ 40 rfl WY.heap.size 22 i22 (.int .u16 0) 1 2 Try.underlying40 KN.out.1 KN.out.2.1 KN.out.2.2.1 KN.out.2.2.2 rfl (by decide) _ _ _ rfl (own_next HO1.out (below1 wr _)) ⟨wr.heap.size, 0, none⟩ 1 1 ([y1].map (Value.int .u16)) rfl rfl (news_at (Below.refl _ _) _ rfl) (fun u hu => by obtain ⟨x, _, rfl⟩ := List.mem_map.1 hu; rfl) (by have := HLEN.out; have := HLT.out; have := HD7.out; unfold maxLen; omega) (by have := HLEN.out; have := HLT.out; have := HD7.out; omega) (Nat.le_trans HL.out.bel.size (below1 wr _).size) ?_
       intro v7 w7 hown7 hg7 _
       obtain ⟨p8, c8, rfl, _, _⟩ := own_slice hown7
       obtain ⟨hp7, k17, z17⟩ := HA.out w7 _ hown7 hg7
       have HP7 := Lib.hid hp7
       clear hp7 hown7 hg7 HA c17
       go_wp2_with fail
       go_roundw
       case rel => exact ⟨k + 1, l ++ [y1], by go_num, HLT.out, by have := HLEN.out; rw [List.length_append]; simp; omega, by intro x hx; rcases List.mem_append.1 hx with h | h; exact HLOK.out x h; obtain rfl := List.mem_singleton.1 h; exact HY.out, HP7.out⟩
       case measure => have := HLT.out; simp only [intOf]; omega
      ·obtain rfl : k = d7 := by omega
       have b1 : decide ((k : Int) < (k : Int)) = false := decide_eq_false (by omega)
       have b3 : decide (k < k) = false := decide_eq_false (by omega)
       obtain ⟨m, sv, ov, hm, hxx, ho1, ho2⟩ := HL.out.ins
       obtain ⟨p9, c9, rfl, _, _⟩ := own_slice ho1
       have c17 : wr.cell? ⟨w13.heap.size, 17, none⟩ = some (.slice p9 l.length c9) := Lib.cell_of_heap hxx 17
       have ck : wr.cell? ⟨w13.heap.size, 9, none⟩ = some (.int .u16 m.sp) := Lib.cell_of_heap hxx 9
       have zk := at_fr hxx 9
       obtain ⟨y9, hy9⟩ : ∃ y, IntKind.u16.wrap (l.length : Int) = y := ⟨_, rfl⟩
       have HY9 : Hid (OkU16 y9) := Lib.hid (hy9 ▸ u16_ok _)
       clear hm hxx ho1 ho2 hk hlt x2
       go_upto_region 28 with (fail)
       generalize eW : World.setCell _ _ _ = WZ
       have HLZ : Hid (LaidS WY WZ WY.heap.size w13.heap.size F4 l) := Lib.hid (eW ▸ HL.out.setSp y9 HY9.out)
       clear eW c17 ck zk m sv ov r0 r1 r2 r3 b1 b3
       obtain ⟨m, sv, ov, hm, hxx, ho1, ho2⟩ := HLZ.out.ins
       obtain ⟨p1, c1', rfl, _, _⟩ := own_slice ho1
       obtain ⟨p2, c2', rfl, hop2⟩ := own_sl0 ho2
       have HM := Lib.hid hm
       have HXX := Lib.hid hxx
       have HO1 := Lib.hid ho1
       have HO2 := Lib.hid ho2
       clear hm hxx ho1 ho2 hop2
       have HBZ := Lib.hid (below_next HBY.out HLZ.out.bel)
       have HGZ := Lib.hid (at_next HLZ.out.bel HG.out)
       have HIZ := Lib.hid (at_next HLZ.out.bel HI.out)
       have HA := Lib.hid (at_next HBZ.out HR1.out)
       have HBB := Lib.hid (at_next HBZ.out HR2.out)
       have HN1 : Hid (w.heap.size + 1 + 1 < w9.heap.size) := Lib.hid (Nat.lt_of_lt_of_le (at_lt HR2.out) HB9.out.size)
       have HN2 : Hid (w.heap.size + 1 + 1 < w13.heap.size) := Lib.hid (Nat.lt_of_lt_of_le (Nat.lt_of_lt_of_le (at_lt HR2.out) HBY.out.size) HLZ.out.low)
       have KC : Hid (∀ W, Below WZ.heap.size WZ W → W.heap[w9.heap.size + 1]? = some (.cells #[.slice (some ⟨w9.heap.size, 0, none⟩) 3 3, .int .u16 0, .int .u16 vec, .slice none 0 0, .slice none 0 0] 35 (0, 0)) ∧ W.heap[w13.heap.size]? = some (.cells (snC m F4 (.slice p1 l.length c1') (.slice p2 0 c2')) 43 (0, 0))) := Lib.hid fun W hW => ⟨at_next hW HIZ.out, at_next hW HXX.out⟩
       refine' wp_region_flowU (S := fun w => w.heap[w9.heap.size + 1]? = some (.cells #[.slice (some ⟨w9.heap.size, 0, none⟩) 3 3, .int .u16 0, .int .u16 vec, .slice none 0 0, .slice none 0 0] 35 (0, 0)) ∧ w.heap[w13.heap.size]? = some (.cells (snC m F4 (.slice p1 l.length c1') (.slice p2 0 c2')) 43 (0, 0))) [] [2, 3] [[], [], [(144, 0)], [(145, 1)]] [(144, 0), (145, 1)] (relL [eqV (.agg #[.slice (some ⟨w9.heap.size, 0, none⟩) 3 3, .int .u16 0, .int .u16 vec, .slice none 0 0, .slice none 0 0]), eqV (.agg (snC m F4 (.slice p1 l.length c1') (.slice p2 0 c2'))), fun v V => True, fun v V => True]) [(2, _), (3, _)] (by kernel_rfl) (by kernel_rfl) rfl ?_ ?_ ?_
       ·refine FlowU.val (by decide) _ (fun _ _ => Iff.rfl) ?_ ?_
        ·simp only [DepP, lQ]
         intro VV K hV hK
         refine (if_pos (by rfl)).mpr ?_
         refine wp_ldrow 35 _ rfl (w9.heap.size + 1) rfl _ hV.1 Try.underlying35 info35 ?_
         exact hK
        refine FlowU.val (by decide) _ (fun _ _ => Iff.rfl) ?_ ?_
        ·simp only [DepP, lQ]
         intro VV K hV hK
         refine (if_pos (by rfl)).mpr ?_
         refine wp_ldrow 43 _ rfl w13.heap.size rfl _ hV.2 Try.underlying43 info43 ?_
         exact hK
        refine FlowU.store (by decide) rfl ?_
        refine FlowU.store (by decide) rfl ?_
        exact FlowU.nil
       ·exact KC.out
       ·intro VV hV
        simp only [Dep, lQ]
        rintro x144 ⟨V144, rfl, hb144⟩
        rintro x145 ⟨V145, rfl, hb145⟩
        have HV := Lib.hid hV
        clear hV hb144 hb145
        refine ⟨KC.out _ HV.out, ?_⟩
        intro K1 hK1
        refine (if_pos (by rfl)).mpr ?_
        refine wp_store_row 35 _ _ rfl (w.heap.size + 1) rfl #[.slice (some ⟨w9.heap.size, 0, none⟩) 3 3, .int .u16 0, .int .u16 vec, .slice none 0 0, .slice none 0 0] rfl (at_next HV.out HA.out) info35 rfl (by simp [Value.oneCell']) ?_
        refine hK1 undef _ ?_
        clear hK1 K1
        simp only [Act.put]
        generalize e6 : World.setRow _ _ _ = W6
        have HA6 := Lib.hid (show W6.heap[w.heap.size + 1]? = some (.cells #[.slice (some ⟨w9.heap.size, 0, none⟩) 3 3, .int .u16 0, .int .u16 vec, .slice none 0 0, .slice none 0 0] 35 (0, 0)) from e6 ▸ setRow_heap _ _ _ _ _ _ (at_next HV.out HA.out))
        have HO6 : Hid (∀ q o, q ≠ w.heap.size + 1 → VV.heap[q]? = some o → W6.heap[q]? = some o) := Lib.hid fun q o hq h => e6 ▸ (setRow_other _ _ _ _ hq).trans h
        have HB6 : Hid (Below w.heap.size w W6) := Lib.hid (e6 ▸ setRow_below (below_next (below_next HB0.out HBZ.out) HV.out) (Nat.le_succ _))
        have HS6 : Hid (W6.ownsRow WY.heap.size 22 1 (.slice p1 l.length c1') l.length (l.map (Value.int .u16)) ∧ W6.ownsRow WY.heap.size 54 2 (.slice p2 0 c2') 0 []) := Lib.hid (e6 ▸ row_two (by decide) (at_next HV.out HA.out) (own_next HO1.out HV.out) (own_next HO2.out HV.out))
        clear e6
        refine ⟨⟨HO6.out _ _ (by have := HN1.out; omega) (KC.out _ HV.out).1, HO6.out _ _ (by have := HN2.out; omega) (KC.out _ HV.out).2⟩, ?_⟩
        intro K1 hK1
        refine (if_pos (by rfl)).mpr ?_
        refine wp_store_row 43 _ _ rfl (w.heap.size + 1 + 1) rfl (snC m F4 (.slice p1 l.length c1') (.slice p2 0 c2')) rfl (HO6.out _ _ (by omega) (at_next HV.out HBB.out)) info43 rfl (snC_one _ _ _ _ _ _ _ _) ?_
        refine hK1 undef _ ?_
        clear hK1 K1
        simp only [Act.put]
        have HBB6 := Lib.hid (HO6.out _ _ (by omega) (at_next HV.out HBB.out))
        have HI6 := Lib.hid (HO6.out _ _ (by have := HN1.out; omega) (KC.out _ HV.out).1)
        have HX6 := Lib.hid (HO6.out _ _ (by have := HN2.out; omega) (KC.out _ HV.out).2)
        have HG6 := Lib.hid (HO6.out _ _ (by have := HN1.out; omega) (at_next HV.out HGZ.out))
        generalize e7 : World.setRow _ _ _ = W7
        have HA7 := Lib.hid (show W7.heap[w.heap.size + 1]? = some (.cells #[.slice (some ⟨w9.heap.size, 0, none⟩) 3 3, .int .u16 0, .int .u16 vec, .slice none 0 0, .slice none 0 0] 35 (0, 0)) from e7 ▸ (setRow_other _ _ _ _ (by omega)).trans HA6.out)
        have HB7' := Lib.hid (show W7.heap[w.heap.size + 1 + 1]? = some (.cells (snC m F4 (.slice p1 l.length c1') (.slice p2 0 c2')) 43 (0, 0)) from e7 ▸ setRow_heap _ _ _ _ _ _ HBB6.out)
        have HO7 : Hid (∀ q o, q ≠ w.heap.size + 1 + 1 → W6.heap[q]? = some o → W7.heap[q]? = some o) := Lib.hid fun q o hq h => e7 ▸ (setRow_other _ _ _ _ hq).trans h
        have HBW7 : Hid (Below w.heap.size w W7) := Lib.hid (e7 ▸ setRow_below HB6.out (by omega))
        have HS7 : Hid (W7.ownsRow WY.heap.size 22 1 (.slice p1 l.length c1') l.length (l.map (Value.int .u16)) ∧ W7.ownsRow WY.heap.size 54 2 (.slice p2 0 c2') 0 []) := Lib.hid (e7 ▸ row_two (by decide) HBB6.out HS6.out.1 HS6.out.2)
        clear e7
        refine ⟨⟨HO7.out _ _ (by have := HN1.out; omega) HI6.out, HO7.out _ _ (by have := HN2.out; omega) HX6.out⟩, ?_⟩
        have HFIN : Hid (LaidAt W7 (some ⟨w9.heap.size, 0, none⟩) [F1, F2, F3] vec m F4 l p1 p2 c1' c2') := Lib.hid ⟨strs_three (HO7.out _ _ (by have := HN1.out; omega) HG6.out) (by rw [HF1.out]; decide) (by rw [HF2.out]; decide) (by rw [HF3.out]; decide), rfl, HVEC.out, HM.out, ⟨_, HS7.out.1⟩, ⟨_, HS7.out.2⟩, HLOK.out, by have := HLEN.out; have := HD7.out; omega, HF4.out⟩
        clear HA6 HO6 HS6 HBB6 HI6 HX6 HG6 HO7 HS7 KC
        go_wp2_with fail
        exact bodyPost_ret (v := .tuple #[.agg #[.slice (some ⟨w9.heap.size, 0, none⟩) 3 3, .int .u16 0, .int .u16 vec, .slice none 0 0, .slice none 0 0], .agg (snC m F4 (.slice p1 l.length c1') (.slice p2 0 c2'))]) (rows_result rfl _ _ (w.heap.size + 1) (w.heap.size + 1 + 1) _ _ 35 43 rfl rfl HA7.out HB7'.out Try.underlying35 Try.underlying43 info35 info43) rfl ⟨_, [F1, F2, F3], 3, vec, m, F4, l, p1, p2, c1', c2', rfl, HFIN.out, HBW7.out⟩
end Go.Proofs.Ytieaicdihingkaa
