/- The setup of the laws, by what it is like. -/
import Derived.Test.YtieaicdihingkaaV7
import Derived.Deep.RegionHeld3
namespace Go.Proofs.Ytieaicdihingkaa
set_option linter.unusedVariables false
set_option linter.unusedSimpArgs false
open Go.RowKit
/-- An image. -/
structure ImgAt9 (w : World) (pb : Option Addr) (banks : List ByteArray) (vec : Int) : Prop where
 strs : StrsLow w.heap.size w pb banks
 nb : banks.length = 3
 vec : OkU16 vec
/-- A state. -/
structure StAt9 (w : World) (m : Mach) (S : ByteArray) (l : List Int) (p1 p2 : Option Addr) (c1 c2 : Nat) : Prop where
 words : WordsOk m
 st : ∃ b, w.ownsRow b 22 1 (.slice p1 l.length c1) l.length (l.map (Value.int .u16))
 out : ∃ b, w.ownsRow b 54 2 (.slice p2 0 c2) 0 []
 ok : ∀ x ∈ l, OkU16 x
 len : 2 ≤ l.length ∧ l.length ≤ 9
 size : S.size = 8192
theorem StrsLow.up {w W : World} {pb : Option Addr} {banks : List ByteArray} (h : StrsLow w.heap.size w pb banks) (hb : Below w.heap.size w W) : StrsLow W.heap.size W pb banks := fun k s hs => by
 obtain ⟨B, e, hB, hc⟩ := h.keeps (Keeps.of_below hb) k s hs
 exact ⟨B, e, Nat.lt_of_lt_of_le hB hb.size, hc⟩
theorem ImgAt9.next {w W : World} {pb : Option Addr} {banks : List ByteArray} {vec : Int} (h : ImgAt9 w pb banks vec) (hb : Below w.heap.size w W) : ImgAt9 W pb banks vec := ⟨StrsLow.up h.strs hb, h.nb, h.vec⟩
theorem StAt9.next {w W : World} {m : Mach} {S : ByteArray} {l : List Int} {p1 p2 : Option Addr} {c1 c2 : Nat} (h : StAt9 w m S l p1 p2 c1 c2) (hb : Below w.heap.size w W) : StAt9 W m S l p1 p2 c1 c2 := by
 obtain ⟨b1, h1⟩ := h.st
 obtain ⟨b2, h2⟩ := h.out
 exact ⟨h.words, ⟨b1, own_next h1 hb⟩, ⟨b2, own_next h2 hb⟩, h.ok, h.len, h.size⟩
theorem TapeAt.next {w W : World} {pi pq : Option Addr} {ci cq : Nat} {ti tq : List Int} (h : TapeAt w pi pq ci cq ti tq) (hb : Below w.heap.size w W) : TapeAt W pi pq ci cq ti tq := by
 obtain ⟨b1, h1⟩ := h.inp
 obtain ⟨b2, h2⟩ := h.irq
 exact ⟨⟨b1, own_next h1 hb⟩, ⟨b2, own_next h2 hb⟩, h.len, h.oki, h.okq⟩
theorem row_any {W : World} {b A e s n : Nat} {c C : Array Value} {t : TypeId} {v : Value} {xs : List Value} (h : W.ownsRow b e s v n xs) (hA : W.heap[A]? = some (.cells c t (0, 0))) (ht : t ≠ e) : (W.setRow A C).ownsRow b e s v n xs :=
 own_row h fun e2 => by
  obtain ⟨_, c', f, hk⟩ := own_kind h _ e2
  rw [hA] at hk
  simp at hk
  exact ht hk.2.1
theorem strs_row {W : World} {A : Nat} {c C : Array Value} {t : TypeId} {pb : Option Addr} {banks : List ByteArray} (h : StrsLow W.heap.size W pb banks) (hA : W.heap[A]? = some (.cells c t (0, 0))) (hn : ∀ k, k < banks.length → ∀ s, c[k]? ≠ some (.string s)) : StrsLow (W.setRow A C).heap.size (W.setRow A C) pb banks := fun k s hs => by
 obtain ⟨B, e, hB, hc, hz⟩ := h k s hs
 have hk := (List.getElem?_eq_some_iff.1 hs).1
 have hne : B ≠ A := fun e2 => by
  rw [e2, Lib.cell_of_heap hA k] at hc
  exact hn k hk s hc
 refine ⟨B, e, by simpa [World.setRow] using hB, ?_, hz⟩
 unfold World.cell? at hc ⊢
 rw [setRow_other _ _ _ _ hne]
 exact hc
theorem ImgAt9.row {W V : World} {A : Nat} {c C : Array Value} {t : TypeId} {pb : Option Addr} {banks : List ByteArray} {vec : Int} (h : ImgAt9 W pb banks vec) (hA : W.heap[A]? = some (.cells c t (0, 0))) (e : W.setRow A C = V) (hn : ∀ k, k < 3 → ∀ s, c[k]? ≠ some (.string s)) : ImgAt9 V pb banks vec :=
 e ▸ ⟨strs_row h.strs hA (by rw [h.nb]; exact hn), h.nb, h.vec⟩
theorem StAt9.row {W V : World} {A : Nat} {c C : Array Value} {t : TypeId} {m : Mach} {S : ByteArray} {l : List Int} {p1 p2 : Option Addr} {c1 c2 : Nat} (h : StAt9 W m S l p1 p2 c1 c2) (hA : W.heap[A]? = some (.cells c t (0, 0))) (e : W.setRow A C = V) (ht : t ≠ 22 ∧ t ≠ 54) : StAt9 V m S l p1 p2 c1 c2 := by
 obtain ⟨b1, h1⟩ := h.st
 obtain ⟨b2, h2⟩ := h.out
 subst e
 exact ⟨h.words, ⟨b1, row_any h1 hA ht.1⟩, ⟨b2, row_any h2 hA ht.2⟩, h.ok, h.len, h.size⟩
theorem TapeAt.row {W V : World} {A : Nat} {c C : Array Value} {t : TypeId} {pi pq : Option Addr} {ci cq : Nat} {ti tq : List Int} (h : TapeAt W pi pq ci cq ti tq) (hA : W.heap[A]? = some (.cells c t (0, 0))) (e : W.setRow A C = V) (ht : t ≠ 22 ∧ t ≠ 5) : TapeAt V pi pq ci cq ti tq := by
 obtain ⟨b1, h1⟩ := h.inp
 obtain ⟨b2, h2⟩ := h.irq
 subst e
 exact ⟨⟨b1, row_any h1 hA ht.1⟩, ⟨b2, row_any h2 hA ht.2⟩, h.len, h.oki, h.okq⟩
theorem FivesAt.take {b : Nat} {w : World} {p : Option Addr} {n q : Nat} (h : FivesAt b w p n) (hq : q ≤ n) : FivesAt b w p q := by
 rcases h with h | ⟨B, off, e, hB, hc⟩
 ·exact .inl (by omega)
 ·exact .inr ⟨B, off, e, hB, fun k hk => hc k (by omega)⟩
def LaidV (v : Value) (V : World) : Prop := ∃ pb banks cb vec m S l p1 p2 c1 c2, v = .tuple #[.agg #[.slice pb banks.length cb, .int .u16 0, .int .u16 vec, .slice none 0 0, .slice none 0 0], .agg (snC m S (.slice p1 l.length c1) (.slice p2 0 c2))] ∧ LaidAt V pb banks vec m S l p1 p2 c1 c2
def ImgV9 (v : Value) (V : World) : Prop := ∃ pb banks cb vec, v = .agg #[.slice pb banks.length cb, .int .u16 0, .int .u16 vec, .slice none 0 0, .slice none 0 0] ∧ ImgAt9 V pb banks vec
def StV9 (v : Value) (V : World) : Prop := ∃ m S l p1 p2 c1 c2, v = .agg (snC m S (.slice p1 l.length c1) (.slice p2 0 c2)) ∧ StAt9 V m S l p1 p2 c1 c2
def TapeV9 (v : Value) (V : World) : Prop := ∃ pin cin tin pirq cirq tirq, v = .agg #[.slice pin tin.length cin, .slice pirq tirq.length cirq] ∧ TapeAt V pin pirq cin cirq tin tirq
def New9 (W0 : World) (C : Array Value) (t : TypeId) (v : Value) (V : World) : Prop := ∃ N : Nat, v = .pointer (some ⟨N, 0, none⟩) ∧ V.heap[N]? = some (.cells C t (0, 0)) ∧ W0.heap.size ≤ N
/-- What the setup is. -/
def SetupPost (w : World) (e : Ending) (w' : World) : Prop := ∃ pb banks cb vec m S l p1 p2 c1 c2 pin cin tin pirq cirq tirq, e = .returned (.tuple #[.agg #[.slice pb banks.length cb, .int .u16 0, .int .u16 vec, .slice none 0 0, .slice none 0 0], .agg (snC m S (.slice p1 l.length c1) (.slice p2 0 c2)), .agg #[.slice pin tin.length cin, .slice pirq tirq.length cirq]]) ∧ ImgAt9 w' pb banks vec ∧ StAt9 w' m S l p1 p2 c1 c2 ∧ TapeAt w' pin pirq cin cirq tin tirq ∧ Below w.heap.size w w'
theorem four_blocks (w W : World) (a b c d : Obj) (h : (((w.alloc a).alloc b).alloc c).alloc d = W) : W.heap[w.heap.size]? = some a ∧ W.heap[w.heap.size + 1]? = some b ∧ W.heap[w.heap.size + 1 + 1]? = some c ∧ W.heap[w.heap.size + 1 + 1 + 1]? = some d ∧ Below w.heap.size w W := by
 subst h
 obtain ⟨h1, h2, h3, h4⟩ := three_blocks w _ a b c rfl
 have n1 := below1 (((w.alloc a).alloc b).alloc c) d
 have h5 := alloc_at (((w.alloc a).alloc b).alloc c) d
 simp only [World.size_alloc] at h5
 exact ⟨at_next n1 h1, at_next n1 h2, at_next n1 h3, h5, below_next h4 n1⟩
theorem LaidAt.next {w W : World} {pb : Option Addr} {banks : List ByteArray} {vec : Int} {m : Mach} {S : ByteArray} {l : List Int} {p1 p2 : Option Addr} {c1 c2 : Nat} (h : LaidAt w pb banks vec m S l p1 p2 c1 c2) (hb : Below w.heap.size w W) : LaidAt W pb banks vec m S l p1 p2 c1 c2 := by
 obtain ⟨b1, h1⟩ := h.st
 obtain ⟨b2, h2⟩ := h.out
 exact ⟨StrsLow.up h.strs hb, h.nb, h.vec, h.words, ⟨b1, own_next h1 hb⟩, ⟨b2, own_next h2 hb⟩, h.ok, h.len, h.size⟩
theorem LaidAt.img {w : World} {pb : Option Addr} {banks : List ByteArray} {vec : Int} {m : Mach} {S : ByteArray} {l : List Int} {p1 p2 : Option Addr} {c1 c2 : Nat} (h : LaidAt w pb banks vec m S l p1 p2 c1 c2) : ImgAt9 w pb banks vec := ⟨h.strs, h.nb, h.vec⟩
theorem LaidAt.state {w : World} {pb : Option Addr} {banks : List ByteArray} {vec : Int} {m : Mach} {S : ByteArray} {l : List Int} {p1 p2 : Option Addr} {c1 c2 : Nat} (h : LaidAt w pb banks vec m S l p1 p2 c1 c2) : StAt9 w m S l p1 p2 c1 c2 := ⟨h.words, h.st, h.out, h.ok, h.len, h.size⟩
theorem sr_blk8 {w W : World} {A : Nat} {C c : Array Value} {t : TypeId} {f : Nat × Nat} (h : w.heap[A]? = some (.cells c t f)) (e : w.setRow A C = W) : W.heap[A]? = some (.cells C t f) := e ▸ setRow_heap _ _ _ C _ _ h
theorem sr_oth8 {w W : World} {A B : Nat} {C : Array Value} {o : Obj} (hne : A ≠ B) (h : w.heap[B]? = some o) (e : w.setRow A C = W) : W.heap[B]? = some o := e ▸ (setRow_other w A B C (fun e => hne e.symm)).trans h
theorem blk_ne {w : World} {A B : Nat} {c d : Array Value} {t u : TypeId} {f g : Nat × Nat} (h1 : w.heap[A]? = some (.cells c t f)) (h2 : w.heap[B]? = some (.cells d u g)) (ht : t ≠ u) : A ≠ B := fun e => by
 rw [e, h2] at h1
 simp at h1
 exact ht h1.2.1.symm
theorem cell_row8 {W : World} {A B k : Nat} {C : Array Value} (hne : B ≠ A) : (W.setRow A C).cell? ⟨B, k, none⟩ = W.cell? ⟨B, k, none⟩ := by
 unfold World.cell?
 rw [setRow_other _ _ _ _ hne]
theorem rows_result3 {fn : Func} {p q r : Tmp} {t u v : TypeId} (h : fn.results = #[.cell p t, .cell q u, .cell r v]) (tmps : Array Value) (w : World) (N M L : Nat) (C D F : Array Value) (e e' e'' : TypeId) (hp : tmps[p]?.getD undef = .pointer (some ⟨N, 0, none⟩)) (hq : tmps[q]?.getD undef = .pointer (some ⟨M, 0, none⟩)) (hr : tmps[r]?.getD undef = .pointer (some ⟨L, 0, none⟩))
  (hN : w.heap[N]? = some (.cells C e (0, 0))) (hM : w.heap[M]? = some (.cells D e' (0, 0))) (hL : w.heap[L]? = some (.cells F e'' (0, 0))) {fs gs ks : Array Field} (hu : Try.prog.underlying t = some (.struct fs)) (hv : Try.prog.underlying u = some (.struct gs)) (hw : Try.prog.underlying v = some (.struct ks))
  (hi : (Try.prog.info? t).map (·.size) = some C.size) (hj : (Try.prog.info? u).map (·.size) = some D.size) (hk : (Try.prog.info? v).map (·.size) = some F.size) : (results fn tmps).run Try.prog w = .ok (.tuple #[.agg C, .agg D, .agg F]) w := by
 have hl := run_loadVar_row (P := Try.prog) w N e t C (0, 0) _ hN hu rfl hi
 have hm := run_loadVar_row (P := Try.prog) w M e' u D (0, 0) _ hM hv rfl hj
 have hn := run_loadVar_row (P := Try.prog) w L e'' v F (0, 0) _ hL hw rfl hk
 simp only [results, h]
 simp [Sem.run_bind, Result.andThen, hp, hq, hr, asAddr, hl, hm, hn]
theorem exec_ldrow {o : Oper} {a : Act} {W : World} (t : TypeId) (x : Operand) (ho : o.op = .load t x) (N : Nat) (hx : a.eval x = .pointer (some ⟨N, 0, none⟩)) (C : Array Value) {e : TypeId} (hN : W.heap[N]? = some (.cells C e (0, 0))) {fs : Array Field} (hu : Try.prog.underlying t = some (.struct fs)) (hi : (Try.prog.info? t).map (·.size) = some C.size) : (execOp a.eval o).run Try.prog W = .ok (.value (.agg C)) W := by
 have hl := run_loadVar_row (P := Try.prog) W N e t C (0, 0) _ hN hu rfl hi
 unfold execOp
 simp only [ho, hx, Instr.loadAt, Instr.sureAddr, Sem.run_bind, Sem.run_pure, Result.andThen_ok, hl]
theorem z35_no : ∀ k, k < 3 → ∀ s, (#[.slice none 0 0, .int .u16 0, .int .u16 0, .slice none 0 0, .slice none 0 0] : Array Value)[k]? ≠ some (.string s) := fun k hk s => by
 match k, hk with
 | 0, _ => simp
 | 1, _ => simp
 | 2, _ => simp
theorem z43_no : ∀ k, k < 3 → ∀ s, (#[.int .u16 0, .int .u16 0, .int .u16 0, .int .u16 0, .int .u16 0, .int .u16 0, .int .u16 0, .int .u16 0, .int .u16 0, .int .u16 0, .int .u16 0, .int .u16 0, .int .i64 0, .int .i64 0, .int .i64 0, .int .i64 0, .string ⟨#[]⟩, .slice none 0 0, .slice none 0 0] : Array Value)[k]? ≠ some (.string s) := fun k hk s => by
 match k, hk with
 | 0, _ => simp
 | 1, _ => simp
 | 2, _ => simp
theorem z51_no : ∀ k, k < 3 → ∀ s, (#[.slice none 0 0, .slice none 0 0] : Array Value)[k]? ≠ some (.string s) := fun k hk s => by
 match k, hk with
 | 0, _ => simp
 | 1, _ => simp
 | 2, _ => simp
set_option maxRecDepth 20000 in
set_option maxHeartbeats 20000000 in
theorem setup_some (p : Option Addr) (n cap : Nat) (n0 n1 n2 n3 : Int) (pt : Option Addr) (nt capt : Nat) (L : List Int) (w : World) (hp : FivesAt w.heap.size w p n) (hcap : n ≤ cap) (hl : n ≤ 9223372036854775807) (ht : RowLow w.heap.size w pt .i64 L) (hL : L.length = nt) (hnt : nt ≤ 9223372036854775807) : Calls Try.prog 21 #[.agg #[.slice p n cap, .int .i64 n0, .int .i64 n1, .int .i64 n2, .int .i64 n3, .slice pt nt capt]] w (SetupPost w) := by
 have HP := Lib.hid hp
 have HT := Lib.hid ht
 have HLN := Lib.hid hL
 have HNT := Lib.hid hnt
 obtain ⟨q, hq⟩ : ∃ q, min n 60 = q := ⟨_, rfl⟩
 have HQN : Hid (q ≤ n ∧ q ≤ 60 ∧ q ≤ cap) := Lib.hid (by omega)
 have mA : (if (60 : Int) < (n : Int) then (60 : Int) else (n : Int)) = (q : Int) := by split <;> omega
 have mB : (if 60 < n then (60 : Int) else (n : Int)) = (q : Int) := by split <;> omega
 have m0 : (0 : Int) ≤ (q : Int) := by omega
 have m3 : (q : Int) ≤ (cap : Int) := by omega
 have m4 : q ≤ cap := by omega
 clear hp ht hL hnt hcap hl hq
 go_enter Try.func21, Try.ntmps21
 go_upto_region 1 with (fail)
 generalize e0 : (((w.alloc _).alloc _).alloc _).alloc _ = W0
 obtain ⟨hx, h35, h43, h51, hb0⟩ := four_blocks _ _ _ _ _ _ e0
 have KC : Hid (∀ W, Below W0.heap.size W0 W → W.cell? ⟨w.heap.size, 0, none⟩ = some (.slice p n cap) ∧ W.cell? ⟨w.heap.size, 1, none⟩ = some (.int .i64 n0) ∧ W.cell? ⟨w.heap.size, 2, none⟩ = some (.int .i64 n1) ∧ W.cell? ⟨w.heap.size, 3, none⟩ = some (.int .i64 n2) ∧ W.cell? ⟨w.heap.size, 4, none⟩ = some (.int .i64 n3) ∧ W.cell? ⟨w.heap.size, 5, none⟩ = some (.slice pt nt capt)) := Lib.hid fun W hW => by
  have hc := Lib.cell_of_heap (at_next hW hx)
  exact ⟨hc 0, hc 1, hc 2, hc 3, hc 4, hc 5⟩
 have H35 := Lib.hid h35
 have H43 := Lib.hid h43
 have H51 := Lib.hid h51
 have HB0 := Lib.hid hb0
 have HSZ : Hid (w.heap.size + 1 + 1 + 1 < W0.heap.size) := Lib.hid (at_lt h51)
 clear e0 hx h35 h43 h51 hb0
 go_cut [5, 6] (fun s5 s6 wx => ∃ (N5 N6 : Nat) (pb : Option Addr) (banks : List ByteArray) (cb : Nat) (vec : Int) (m : Mach) (S : ByteArray) (l : List Int) (p1 p2 : Option Addr) (c1 c2 : Nat), s5 = .pointer (some ⟨N5, 0, none⟩) ∧ s6 = .pointer (some ⟨N6, 0, none⟩) ∧ wx.heap[N5]? = some (.cells #[.slice pb banks.length cb, .int .u16 0, .int .u16 vec, .slice none 0 0, .slice none 0 0] 35 (0, 0)) ∧ wx.heap[N6]? = some (.cells (snC m S (.slice p1 l.length c1) (.slice p2 0 c2)) 43 (0, 0)) ∧ (W0.heap.size ≤ N5 ∧ W0.heap.size ≤ N6) ∧ ImgAt9 wx pb banks vec ∧ StAt9 wx m S l p1 p2 c1 c2 ∧ Below W0.heap.size W0 wx)
 case first => as_aux_lemma =>
  skip
  refine wp_region_noPanic ?_
  refine wp_region_held_drew (S := fun W => Below W0.heap.size W0 W) (by kernel_rfl) (Below.drew (Below.refl _ _)) (fun hHeld => ?_)
  generalize eD : W0.drew = V9
  have HB9 : Hid (Below W0.heap.size W0 V9) := Lib.hid (eD ▸ hHeld)
  clear eD hHeld
  refine wpAnyH_take (i := 0) (v := ?v0_1) (by simp only [List.getElem?_toArray, List.getElem?_cons_succ, List.getElem?_cons_zero]; rfl) (by kernel_rfl) (by kernel_rfl) (by kernel_rfl) (fun _ _ _ h => h) (Or.inl ⟨by rfl, ?hy0_1⟩) HB9.out ?rest0_1
  case hy0_1 =>
   intro w9 hSw
   obtain ⟨k0, k1, k2, k3, k4, k5⟩ := KC.out _ hSw
   go_simp
   all_goals with_reducible rfl
  try simp only [Act.put, lA, lZ, lS]
  refine wpAnyH_take (i := 1) (v := ?v1_2) (by simp only [List.getElem?_toArray, List.getElem?_cons_succ, List.getElem?_cons_zero]; rfl) (by kernel_rfl) (by kernel_rfl) (by kernel_rfl) (fun _ _ _ h => h) (Or.inl ⟨by rfl, ?hy1_2⟩) HB9.out ?rest1_2
  case hy1_2 =>
   intro w9 hSw
   obtain ⟨k0, k1, k2, k3, k4, k5⟩ := KC.out _ hSw
   go_simp
   all_goals with_reducible rfl
  try simp only [Act.put, lA, lZ, lS]
  refine wpAnyH_take (i := 2) (v := ?v2_3) (by simp only [List.getElem?_toArray, List.getElem?_cons_succ, List.getElem?_cons_zero]; rfl) (by kernel_rfl) (by kernel_rfl) (by kernel_rfl) (fun _ _ _ h => h) (Or.inl ⟨by rfl, ?hy2_3⟩) HB9.out ?rest2_3
  case hy2_3 =>
   intro w9 hSw
   obtain ⟨k0, k1, k2, k3, k4, k5⟩ := KC.out _ hSw
   go_simp
   all_goals with_reducible rfl
  try simp only [Act.put, lA, lZ, lS]
  refine wpAnyH_take (i := 3) (v := ?v3_4) (by simp only [List.getElem?_toArray, List.getElem?_cons_succ, List.getElem?_cons_zero]; rfl) (by kernel_rfl) (by kernel_rfl) (by kernel_rfl) (fun _ _ _ h => h) (Or.inl ⟨by rfl, ?hy3_4⟩) HB9.out ?rest3_4
  case hy3_4 =>
   intro w9 hSw
   obtain ⟨k0, k1, k2, k3, k4, k5⟩ := KC.out _ hSw
   go_simp
   all_goals with_reducible rfl
  try simp only [Act.put, lA, lZ, lS]
  refine wpAnyH_take (i := 4) (v := ?v4_5) (by simp only [List.getElem?_toArray, List.getElem?_cons_succ, List.getElem?_cons_zero]; rfl) (by kernel_rfl) (by kernel_rfl) (by kernel_rfl) (fun _ _ _ h => h) (Or.inl ⟨by rfl, ?hy4_5⟩) HB9.out ?rest4_5
  case hy4_5 =>
   intro w9 hSw
   obtain ⟨k0, k1, k2, k3, k4, k5⟩ := KC.out _ hSw
   go_simp
   all_goals with_reducible rfl
  try simp only [Act.put, lA, lZ, lS]
  refine wpAnyH_take (i := 5) (v := ?v5_6) (by simp only [List.getElem?_toArray, List.getElem?_cons_succ, List.getElem?_cons_zero]; rfl) (by kernel_rfl) (by kernel_rfl) (by kernel_rfl) (fun _ _ _ h => h) (Or.inl ⟨by rfl, ?hy5_6⟩) HB9.out ?rest5_6
  case hy5_6 =>
   intro w9 hSw
   obtain ⟨k0, k1, k2, k3, k4, k5⟩ := KC.out _ hSw
   go_simp
   all_goals with_reducible rfl
  try simp only [Act.put, lA, lZ, lS]
  refine wpAnyH_take (i := 6) (v := ?v6_7) (by simp only [List.getElem?_toArray, List.getElem?_cons_succ, List.getElem?_cons_zero]; rfl) (by kernel_rfl) (by kernel_rfl) (by kernel_rfl) (fun _ _ _ h => h) (Or.inl ⟨by rfl, ?hy6_7⟩) HB9.out ?rest6_7
  case hy6_7 =>
   intro w9 hSw
   obtain ⟨k0, k1, k2, k3, k4, k5⟩ := KC.out _ hSw
   go_simp
   all_goals with_reducible rfl
  try simp only [Act.put, lA, lZ, lS]
  refine wpAnyH_take (i := 7) (v := ?v7_8) (by simp only [List.getElem?_toArray, List.getElem?_cons_succ, List.getElem?_cons_zero]; rfl) (by kernel_rfl) (by kernel_rfl) (by kernel_rfl) (fun _ _ _ h => h) (Or.inl ⟨by rfl, ?hy7_8⟩) HB9.out ?rest7_8
  case hy7_8 =>
   intro w9 hSw
   obtain ⟨k0, k1, k2, k3, k4, k5⟩ := KC.out _ hSw
   go_simp
   all_goals with_reducible rfl
  try simp only [Act.put, lA, lZ, lS]
  refine wpAnyH_take (i := 8) (v := ?v8_9) (by simp only [List.getElem?_toArray, List.getElem?_cons_succ, List.getElem?_cons_zero]; rfl) (by kernel_rfl) (by kernel_rfl) (by kernel_rfl) (fun _ _ _ h => h) (Or.inl ⟨by rfl, ?hy8_9⟩) HB9.out ?rest8_9
  case hy8_9 =>
   intro w9 hSw
   obtain ⟨k0, k1, k2, k3, k4, k5⟩ := KC.out _ hSw
   go_simp
   all_goals with_reducible rfl
  try simp only [Act.put, lA, lZ, lS]
  refine wpAnyH_ready (rs := [9, 13, 14]) (by kernel_rfl) (by simp) ?_
  refine (AllReadyH.cons (by simp only [List.getElem?_toArray, List.getElem?_cons_succ, List.getElem?_cons_zero]; rfl) (fun K hK => ?_) (AllReadyH.cons (by simp only [List.getElem?_toArray, List.getElem?_cons_succ, List.getElem?_cons_zero]; rfl) (fun K hK => ?_) (AllReadyH.cons (by simp only [List.getElem?_toArray, List.getElem?_cons_succ, List.getElem?_cons_zero]; rfl) (fun K hK => ?_) AllReadyH.nil)))
  ·go_simp
   go_at_call 40
   refine (laid_some p q cap n0 n1 n2 n3 _ (((HP.out.next (below_next HB0.out HB9.out)).up (below_next HB0.out HB9.out).size).take HQN.out.1) HQN.out.2.1 HQN.out.2.2).mono ?_
   rintro e V10 ⟨pb, banks, cb, vec, m, S, l, p1, p2, c1, c2, rfl, hl9, h9⟩
   refine hK.out _ _ (below_next HB9.out h9) (fun hHeld => ?_)
   have HB10 := Lib.hid (below_next HB9.out h9)
   have HL_10 := Lib.hid hl9
   clear hK K hHeld hl9 h9
   try simp only [Act.put, lA, lZ, lS]
   refine wpAnyH_take (i := 10) (v := ?v10_10) (by simp only [List.getElem?_toArray, List.getElem?_cons_succ, List.getElem?_cons_zero]; rfl) (by kernel_rfl) (by kernel_rfl) (by kernel_rfl) (fun _ _ _ h => h) (Or.inl ⟨by rfl, ?hy10_10⟩) HB10.out ?rest10_10
   case hy10_10 =>
    intro w9 hSw
    obtain ⟨k0, k1, k2, k3, k4, k5⟩ := KC.out _ hSw
    go_simp
    all_goals with_reducible rfl
   try simp only [Act.put, lA, lZ, lS]
   refine wpAnyH_take (i := 11) (v := ?v11_11) (by simp only [List.getElem?_toArray, List.getElem?_cons_succ, List.getElem?_cons_zero]; rfl) (by kernel_rfl) (by kernel_rfl) (by kernel_rfl) (fun _ _ _ h => h) (Or.inl ⟨by rfl, ?hy11_11⟩) HB10.out ?rest11_11
   case hy11_11 =>
    intro w9 hSw
    obtain ⟨k0, k1, k2, k3, k4, k5⟩ := KC.out _ hSw
    go_simp
    all_goals with_reducible rfl
   try simp only [Act.put, lA, lZ, lS]
   refine wpAnyH_take (i := 12) (v := ?v12_12) (by simp only [List.getElem?_toArray, List.getElem?_cons_succ, List.getElem?_cons_zero]; rfl) (by kernel_rfl) (by kernel_rfl) (by kernel_rfl) (fun _ _ _ h => h) (Or.inl ⟨by rfl, ?hy12_12⟩) HB10.out ?rest12_12
   case hy12_12 =>
    intro w9 hSw
    obtain ⟨k0, k1, k2, k3, k4, k5⟩ := KC.out _ hSw
    go_simp
    all_goals with_reducible rfl
   try simp only [Act.put, lA, lZ, lS]
   refine wpAnyH_ready (rs := [13, 14]) (by kernel_rfl) (by simp) ?_
   refine (AllReadyH.cons (by simp only [List.getElem?_toArray, List.getElem?_cons_succ, List.getElem?_cons_zero]; rfl) (fun K hK => ?_) (AllReadyH.cons (by simp only [List.getElem?_toArray, List.getElem?_cons_succ, List.getElem?_cons_zero]; rfl) (fun K hK => ?_) AllReadyH.nil))
   ·go_simp
    refine hK.out _ _ (below_alloc HB10.out _) (fun hHeld => ?_)
    clear hK K hHeld
    try simp only [Act.put, lA, lZ, lS]
    generalize eV : World.alloc _ _ = V11
    have HB11 := Lib.hid (show Below W0.heap.size W0 V11 from eV ▸ below_alloc HB10.out _)
    have HN5_11 : Hid (V11.heap[V10.heap.size]? = some (.cells #[.slice none 0 0, .int .u16 0, .int .u16 0, .slice none 0 0, .slice none 0 0] 35 (0, 0))) := Lib.hid (eV ▸ alloc_at V10 _)
    have HN5L : Hid (W0.heap.size ≤ V10.heap.size) := Lib.hid HB10.out.size
    have HL_11 := Lib.hid (HL_10.out.next (al_bel eV))
    clear eV
    refine wpAnyH_ready (rs := [14]) (by kernel_rfl) (by simp) ?_
    refine (AllReadyH.cons (by simp only [List.getElem?_toArray, List.getElem?_cons_succ, List.getElem?_cons_zero]; rfl) (fun K hK => ?_) AllReadyH.nil)
    go_simp
    refine hK.out _ _ (below_alloc HB11.out _) (fun hHeld => ?_)
    clear hK K hHeld
    try simp only [Act.put, lA, lZ, lS]
    generalize eV : World.alloc _ _ = V12
    have HB12 := Lib.hid (show Below W0.heap.size W0 V12 from eV ▸ below_alloc HB11.out _)
    have HN6_12 : Hid (V12.heap[V11.heap.size]? = some (.cells #[.int .u16 0, .int .u16 0, .int .u16 0, .int .u16 0, .int .u16 0, .int .u16 0, .int .u16 0, .int .u16 0, .int .u16 0, .int .u16 0, .int .u16 0, .int .u16 0, .int .i64 0, .int .i64 0, .int .i64 0, .int .i64 0, .string ⟨#[]⟩, .slice none 0 0, .slice none 0 0] 43 (0, 0))) := Lib.hid (eV ▸ alloc_at V11 _)
    have HN6L : Hid (W0.heap.size ≤ V11.heap.size) := Lib.hid HB11.out.size
    have HN5_12 := Lib.hid (at_next (al_bel eV) HN5_11.out)
    have HL_12 := Lib.hid (HL_11.out.next (al_bel eV))
    clear eV
    refine wpAnyH_ready (rs := [15]) (by kernel_rfl) (by simp) ?_
    refine (AllReadyH.cons (by simp only [List.getElem?_toArray, List.getElem?_cons_succ, List.getElem?_cons_zero]; rfl) (fun K hK => ?_) AllReadyH.nil)
    refine wp_store_row 35 _ _ rfl (V10.heap.size) rfl #[.slice pb banks.length cb, .int .u16 0, .int .u16 vec, .slice none 0 0, .slice none 0 0] rfl HN5_12.out info35 rfl (by simp [Value.oneCell']) ?_
    refine hK.out _ _ (setRow_below HB12.out HN5L.out) (fun hHeld => ?_)
    clear hK K hHeld
    try simp only [Act.put, lA, lZ, lS]
    generalize eV : World.setRow _ _ _ = V13
    have HB13 := Lib.hid (show Below W0.heap.size W0 V13 from eV ▸ setRow_below HB12.out HN5L.out)
    have HNE : Hid (V10.heap.size ≠ V11.heap.size) := Lib.hid (blk_ne HN5_12.out HN6_12.out (by decide))
    have HI_13 : Hid (V13.heap[V10.heap.size]? = some (.cells #[.slice pb banks.length cb, .int .u16 0, .int .u16 vec, .slice none 0 0, .slice none 0 0] 35 (0, 0))) := Lib.hid (sr_blk8 HN5_12.out eV)
    have HN6_13 := Lib.hid (sr_oth8 HNE.out HN6_12.out eV)
    have HIM_13 := Lib.hid (HL_12.out.img.row HN5_12.out eV z35_no)
    have HST_13 := Lib.hid (HL_12.out.state.row HN5_12.out eV (by decide))
    clear eV
    refine wpAnyH_ready (rs := [16]) (by kernel_rfl) (by simp) ?_
    refine (AllReadyH.cons (by simp only [List.getElem?_toArray, List.getElem?_cons_succ, List.getElem?_cons_zero]; rfl) (fun K hK => ?_) AllReadyH.nil)
    refine wp_store_row 43 _ _ rfl (V11.heap.size) rfl (snC m S (.slice p1 l.length c1) (.slice p2 0 c2)) rfl HN6_13.out info43 rfl (snC_one _ _ _ _ _ _ _ _) ?_
    refine hK.out _ _ (setRow_below HB13.out HN6L.out) (fun hHeld => ?_)
    clear hK K hHeld
    try simp only [Act.put, lA, lZ, lS]
    generalize eV : World.setRow _ _ _ = V14
    have HB14 := Lib.hid (show Below W0.heap.size W0 V14 from eV ▸ setRow_below HB13.out HN6L.out)
    have HI_14 := Lib.hid (sr_oth8 HNE.out.symm HI_13.out eV)
    have HX_14 : Hid (V14.heap[V11.heap.size]? = some (.cells (snC m S (.slice p1 l.length c1) (.slice p2 0 c2)) 43 (0, 0))) := Lib.hid (sr_blk8 HN6_13.out eV)
    have HIM_14 := Lib.hid (HIM_13.out.row HN6_13.out eV z43_no)
    have HST_14 := Lib.hid (HST_13.out.row HN6_13.out eV (by decide))
    clear eV
    refine wpAnyH_done (by kernel_rfl) ?_ _
    refine NoPanic.normal ?_
    go_wp2_with fail
    go_meet
    exact ⟨_, _, pb, banks, cb, vec, m, S, l, p1, p2, c1, c2, rfl, rfl, HI_14.out, HX_14.out, ⟨HN5L.out, HN6L.out⟩, HIM_14.out, HST_14.out, HB14.out⟩
   ·go_simp
    refine hK.out _ _ (below_alloc HB10.out _) (fun hHeld => ?_)
    clear hK K hHeld
    try simp only [Act.put, lA, lZ, lS]
    generalize eV : World.alloc _ _ = V15
    have HB15 := Lib.hid (show Below W0.heap.size W0 V15 from eV ▸ below_alloc HB10.out _)
    have HN6_15 : Hid (V15.heap[V10.heap.size]? = some (.cells #[.int .u16 0, .int .u16 0, .int .u16 0, .int .u16 0, .int .u16 0, .int .u16 0, .int .u16 0, .int .u16 0, .int .u16 0, .int .u16 0, .int .u16 0, .int .u16 0, .int .i64 0, .int .i64 0, .int .i64 0, .int .i64 0, .string ⟨#[]⟩, .slice none 0 0, .slice none 0 0] 43 (0, 0))) := Lib.hid (eV ▸ alloc_at V10 _)
    have HN6L : Hid (W0.heap.size ≤ V10.heap.size) := Lib.hid HB10.out.size
    have HL_15 := Lib.hid (HL_10.out.next (al_bel eV))
    clear eV
    refine wpAnyH_ready (rs := [13]) (by kernel_rfl) (by simp) ?_
    refine (AllReadyH.cons (by simp only [List.getElem?_toArray, List.getElem?_cons_succ, List.getElem?_cons_zero]; rfl) (fun K hK => ?_) AllReadyH.nil)
    go_simp
    refine hK.out _ _ (below_alloc HB15.out _) (fun hHeld => ?_)
    clear hK K hHeld
    try simp only [Act.put, lA, lZ, lS]
    generalize eV : World.alloc _ _ = V16
    have HB16 := Lib.hid (show Below W0.heap.size W0 V16 from eV ▸ below_alloc HB15.out _)
    have HN5_16 : Hid (V16.heap[V15.heap.size]? = some (.cells #[.slice none 0 0, .int .u16 0, .int .u16 0, .slice none 0 0, .slice none 0 0] 35 (0, 0))) := Lib.hid (eV ▸ alloc_at V15 _)
    have HN5L : Hid (W0.heap.size ≤ V15.heap.size) := Lib.hid HB15.out.size
    have HN6_16 := Lib.hid (at_next (al_bel eV) HN6_15.out)
    have HL_16 := Lib.hid (HL_15.out.next (al_bel eV))
    clear eV
    refine wpAnyH_ready (rs := [15]) (by kernel_rfl) (by simp) ?_
    refine (AllReadyH.cons (by simp only [List.getElem?_toArray, List.getElem?_cons_succ, List.getElem?_cons_zero]; rfl) (fun K hK => ?_) AllReadyH.nil)
    refine wp_store_row 35 _ _ rfl (V15.heap.size) rfl #[.slice pb banks.length cb, .int .u16 0, .int .u16 vec, .slice none 0 0, .slice none 0 0] rfl HN5_16.out info35 rfl (by simp [Value.oneCell']) ?_
    refine hK.out _ _ (setRow_below HB16.out HN5L.out) (fun hHeld => ?_)
    clear hK K hHeld
    try simp only [Act.put, lA, lZ, lS]
    generalize eV : World.setRow _ _ _ = V17
    have HB17 := Lib.hid (show Below W0.heap.size W0 V17 from eV ▸ setRow_below HB16.out HN5L.out)
    have HNE : Hid (V15.heap.size ≠ V10.heap.size) := Lib.hid (blk_ne HN5_16.out HN6_16.out (by decide))
    have HI_17 : Hid (V17.heap[V15.heap.size]? = some (.cells #[.slice pb banks.length cb, .int .u16 0, .int .u16 vec, .slice none 0 0, .slice none 0 0] 35 (0, 0))) := Lib.hid (sr_blk8 HN5_16.out eV)
    have HN6_17 := Lib.hid (sr_oth8 HNE.out HN6_16.out eV)
    have HIM_17 := Lib.hid (HL_16.out.img.row HN5_16.out eV z35_no)
    have HST_17 := Lib.hid (HL_16.out.state.row HN5_16.out eV (by decide))
    clear eV
    refine wpAnyH_ready (rs := [16]) (by kernel_rfl) (by simp) ?_
    refine (AllReadyH.cons (by simp only [List.getElem?_toArray, List.getElem?_cons_succ, List.getElem?_cons_zero]; rfl) (fun K hK => ?_) AllReadyH.nil)
    refine wp_store_row 43 _ _ rfl (V10.heap.size) rfl (snC m S (.slice p1 l.length c1) (.slice p2 0 c2)) rfl HN6_17.out info43 rfl (snC_one _ _ _ _ _ _ _ _) ?_
    refine hK.out _ _ (setRow_below HB17.out HN6L.out) (fun hHeld => ?_)
    clear hK K hHeld
    try simp only [Act.put, lA, lZ, lS]
    generalize eV : World.setRow _ _ _ = V18
    have HB18 := Lib.hid (show Below W0.heap.size W0 V18 from eV ▸ setRow_below HB17.out HN6L.out)
    have HI_18 := Lib.hid (sr_oth8 HNE.out.symm HI_17.out eV)
    have HX_18 : Hid (V18.heap[V10.heap.size]? = some (.cells (snC m S (.slice p1 l.length c1) (.slice p2 0 c2)) 43 (0, 0))) := Lib.hid (sr_blk8 HN6_17.out eV)
    have HIM_18 := Lib.hid (HIM_17.out.row HN6_17.out eV z43_no)
    have HST_18 := Lib.hid (HST_17.out.row HN6_17.out eV (by decide))
    clear eV
    refine wpAnyH_done (by kernel_rfl) ?_ _
    refine NoPanic.normal ?_
    go_wp2_with fail
    go_meet
    exact ⟨_, _, pb, banks, cb, vec, m, S, l, p1, p2, c1, c2, rfl, rfl, HI_18.out, HX_18.out, ⟨HN5L.out, HN6L.out⟩, HIM_18.out, HST_18.out, HB18.out⟩
  ·go_simp
   refine hK.out _ _ (below_alloc HB9.out _) (fun hHeld => ?_)
   clear hK K hHeld
   try simp only [Act.put, lA, lZ, lS]
   generalize eV : World.alloc _ _ = V19
   have HB19 := Lib.hid (show Below W0.heap.size W0 V19 from eV ▸ below_alloc HB9.out _)
   have HN5_19 : Hid (V19.heap[V9.heap.size]? = some (.cells #[.slice none 0 0, .int .u16 0, .int .u16 0, .slice none 0 0, .slice none 0 0] 35 (0, 0))) := Lib.hid (eV ▸ alloc_at V9 _)
   have HN5L : Hid (W0.heap.size ≤ V9.heap.size) := Lib.hid HB9.out.size
   clear eV
   refine wpAnyH_ready (rs := [9, 14]) (by kernel_rfl) (by simp) ?_
   refine (AllReadyH.cons (by simp only [List.getElem?_toArray, List.getElem?_cons_succ, List.getElem?_cons_zero]; rfl) (fun K hK => ?_) (AllReadyH.cons (by simp only [List.getElem?_toArray, List.getElem?_cons_succ, List.getElem?_cons_zero]; rfl) (fun K hK => ?_) AllReadyH.nil))
   ·go_simp
    go_at_call 40
    refine (laid_some p q cap n0 n1 n2 n3 _ (((HP.out.next (below_next HB0.out HB19.out)).up (below_next HB0.out HB19.out).size).take HQN.out.1) HQN.out.2.1 HQN.out.2.2).mono ?_
    rintro e V20 ⟨pb, banks, cb, vec, m, S, l, p1, p2, c1, c2, rfl, hl9, h9⟩
    refine hK.out _ _ (below_next HB19.out h9) (fun hHeld => ?_)
    have HB20 := Lib.hid (below_next HB19.out h9)
    have HN5_20 := Lib.hid (at_next h9 HN5_19.out)
    have HL_20 := Lib.hid hl9
    clear hK K hHeld hl9 h9
    try simp only [Act.put, lA, lZ, lS]
    refine wpAnyH_take (i := 10) (v := ?v10_13) (by simp only [List.getElem?_toArray, List.getElem?_cons_succ, List.getElem?_cons_zero]; rfl) (by kernel_rfl) (by kernel_rfl) (by kernel_rfl) (fun _ _ _ h => h) (Or.inl ⟨by rfl, ?hy10_13⟩) HB20.out ?rest10_13
    case hy10_13 =>
     intro w9 hSw
     obtain ⟨k0, k1, k2, k3, k4, k5⟩ := KC.out _ hSw
     go_simp
     all_goals with_reducible rfl
    try simp only [Act.put, lA, lZ, lS]
    refine wpAnyH_take (i := 11) (v := ?v11_14) (by simp only [List.getElem?_toArray, List.getElem?_cons_succ, List.getElem?_cons_zero]; rfl) (by kernel_rfl) (by kernel_rfl) (by kernel_rfl) (fun _ _ _ h => h) (Or.inl ⟨by rfl, ?hy11_14⟩) HB20.out ?rest11_14
    case hy11_14 =>
     intro w9 hSw
     obtain ⟨k0, k1, k2, k3, k4, k5⟩ := KC.out _ hSw
     go_simp
     all_goals with_reducible rfl
    try simp only [Act.put, lA, lZ, lS]
    refine wpAnyH_take (i := 12) (v := ?v12_15) (by simp only [List.getElem?_toArray, List.getElem?_cons_succ, List.getElem?_cons_zero]; rfl) (by kernel_rfl) (by kernel_rfl) (by kernel_rfl) (fun _ _ _ h => h) (Or.inl ⟨by rfl, ?hy12_15⟩) HB20.out ?rest12_15
    case hy12_15 =>
     intro w9 hSw
     obtain ⟨k0, k1, k2, k3, k4, k5⟩ := KC.out _ hSw
     go_simp
     all_goals with_reducible rfl
    try simp only [Act.put, lA, lZ, lS]
    refine wpAnyH_ready (rs := [14]) (by kernel_rfl) (by simp) ?_
    refine (AllReadyH.cons (by simp only [List.getElem?_toArray, List.getElem?_cons_succ, List.getElem?_cons_zero]; rfl) (fun K hK => ?_) AllReadyH.nil)
    go_simp
    refine hK.out _ _ (below_alloc HB20.out _) (fun hHeld => ?_)
    clear hK K hHeld
    try simp only [Act.put, lA, lZ, lS]
    generalize eV : World.alloc _ _ = V21
    have HB21 := Lib.hid (show Below W0.heap.size W0 V21 from eV ▸ below_alloc HB20.out _)
    have HN6_21 : Hid (V21.heap[V20.heap.size]? = some (.cells #[.int .u16 0, .int .u16 0, .int .u16 0, .int .u16 0, .int .u16 0, .int .u16 0, .int .u16 0, .int .u16 0, .int .u16 0, .int .u16 0, .int .u16 0, .int .u16 0, .int .i64 0, .int .i64 0, .int .i64 0, .int .i64 0, .string ⟨#[]⟩, .slice none 0 0, .slice none 0 0] 43 (0, 0))) := Lib.hid (eV ▸ alloc_at V20 _)
    have HN6L : Hid (W0.heap.size ≤ V20.heap.size) := Lib.hid HB20.out.size
    have HN5_21 := Lib.hid (at_next (al_bel eV) HN5_20.out)
    have HL_21 := Lib.hid (HL_20.out.next (al_bel eV))
    clear eV
    refine wpAnyH_ready (rs := [15]) (by kernel_rfl) (by simp) ?_
    refine (AllReadyH.cons (by simp only [List.getElem?_toArray, List.getElem?_cons_succ, List.getElem?_cons_zero]; rfl) (fun K hK => ?_) AllReadyH.nil)
    refine wp_store_row 35 _ _ rfl (V9.heap.size) rfl #[.slice pb banks.length cb, .int .u16 0, .int .u16 vec, .slice none 0 0, .slice none 0 0] rfl HN5_21.out info35 rfl (by simp [Value.oneCell']) ?_
    refine hK.out _ _ (setRow_below HB21.out HN5L.out) (fun hHeld => ?_)
    clear hK K hHeld
    try simp only [Act.put, lA, lZ, lS]
    generalize eV : World.setRow _ _ _ = V22
    have HB22 := Lib.hid (show Below W0.heap.size W0 V22 from eV ▸ setRow_below HB21.out HN5L.out)
    have HNE : Hid (V9.heap.size ≠ V20.heap.size) := Lib.hid (blk_ne HN5_21.out HN6_21.out (by decide))
    have HI_22 : Hid (V22.heap[V9.heap.size]? = some (.cells #[.slice pb banks.length cb, .int .u16 0, .int .u16 vec, .slice none 0 0, .slice none 0 0] 35 (0, 0))) := Lib.hid (sr_blk8 HN5_21.out eV)
    have HN6_22 := Lib.hid (sr_oth8 HNE.out HN6_21.out eV)
    have HIM_22 := Lib.hid (HL_21.out.img.row HN5_21.out eV z35_no)
    have HST_22 := Lib.hid (HL_21.out.state.row HN5_21.out eV (by decide))
    clear eV
    refine wpAnyH_ready (rs := [16]) (by kernel_rfl) (by simp) ?_
    refine (AllReadyH.cons (by simp only [List.getElem?_toArray, List.getElem?_cons_succ, List.getElem?_cons_zero]; rfl) (fun K hK => ?_) AllReadyH.nil)
    refine wp_store_row 43 _ _ rfl (V20.heap.size) rfl (snC m S (.slice p1 l.length c1) (.slice p2 0 c2)) rfl HN6_22.out info43 rfl (snC_one _ _ _ _ _ _ _ _) ?_
    refine hK.out _ _ (setRow_below HB22.out HN6L.out) (fun hHeld => ?_)
    clear hK K hHeld
    try simp only [Act.put, lA, lZ, lS]
    generalize eV : World.setRow _ _ _ = V23
    have HB23 := Lib.hid (show Below W0.heap.size W0 V23 from eV ▸ setRow_below HB22.out HN6L.out)
    have HI_23 := Lib.hid (sr_oth8 HNE.out.symm HI_22.out eV)
    have HX_23 : Hid (V23.heap[V20.heap.size]? = some (.cells (snC m S (.slice p1 l.length c1) (.slice p2 0 c2)) 43 (0, 0))) := Lib.hid (sr_blk8 HN6_22.out eV)
    have HIM_23 := Lib.hid (HIM_22.out.row HN6_22.out eV z43_no)
    have HST_23 := Lib.hid (HST_22.out.row HN6_22.out eV (by decide))
    clear eV
    refine wpAnyH_done (by kernel_rfl) ?_ _
    refine NoPanic.normal ?_
    go_wp2_with fail
    go_meet
    exact ⟨_, _, pb, banks, cb, vec, m, S, l, p1, p2, c1, c2, rfl, rfl, HI_23.out, HX_23.out, ⟨HN5L.out, HN6L.out⟩, HIM_23.out, HST_23.out, HB23.out⟩
   ·go_simp
    refine hK.out _ _ (below_alloc HB19.out _) (fun hHeld => ?_)
    clear hK K hHeld
    try simp only [Act.put, lA, lZ, lS]
    generalize eV : World.alloc _ _ = V24
    have HB24 := Lib.hid (show Below W0.heap.size W0 V24 from eV ▸ below_alloc HB19.out _)
    have HN6_24 : Hid (V24.heap[V19.heap.size]? = some (.cells #[.int .u16 0, .int .u16 0, .int .u16 0, .int .u16 0, .int .u16 0, .int .u16 0, .int .u16 0, .int .u16 0, .int .u16 0, .int .u16 0, .int .u16 0, .int .u16 0, .int .i64 0, .int .i64 0, .int .i64 0, .int .i64 0, .string ⟨#[]⟩, .slice none 0 0, .slice none 0 0] 43 (0, 0))) := Lib.hid (eV ▸ alloc_at V19 _)
    have HN6L : Hid (W0.heap.size ≤ V19.heap.size) := Lib.hid HB19.out.size
    have HN5_24 := Lib.hid (at_next (al_bel eV) HN5_19.out)
    clear eV
    refine wpAnyH_ready (rs := [9]) (by kernel_rfl) (by simp) ?_
    refine (AllReadyH.cons (by simp only [List.getElem?_toArray, List.getElem?_cons_succ, List.getElem?_cons_zero]; rfl) (fun K hK => ?_) AllReadyH.nil)
    go_simp
    go_at_call 40
    refine (laid_some p q cap n0 n1 n2 n3 _ (((HP.out.next (below_next HB0.out HB24.out)).up (below_next HB0.out HB24.out).size).take HQN.out.1) HQN.out.2.1 HQN.out.2.2).mono ?_
    rintro e V25 ⟨pb, banks, cb, vec, m, S, l, p1, p2, c1, c2, rfl, hl9, h9⟩
    refine hK.out _ _ (below_next HB24.out h9) (fun hHeld => ?_)
    have HB25 := Lib.hid (below_next HB24.out h9)
    have HN5_25 := Lib.hid (at_next h9 HN5_24.out)
    have HN6_25 := Lib.hid (at_next h9 HN6_24.out)
    have HL_25 := Lib.hid hl9
    clear hK K hHeld hl9 h9
    try simp only [Act.put, lA, lZ, lS]
    refine wpAnyH_take (i := 10) (v := ?v10_16) (by simp only [List.getElem?_toArray, List.getElem?_cons_succ, List.getElem?_cons_zero]; rfl) (by kernel_rfl) (by kernel_rfl) (by kernel_rfl) (fun _ _ _ h => h) (Or.inl ⟨by rfl, ?hy10_16⟩) HB25.out ?rest10_16
    case hy10_16 =>
     intro w9 hSw
     obtain ⟨k0, k1, k2, k3, k4, k5⟩ := KC.out _ hSw
     go_simp
     all_goals with_reducible rfl
    try simp only [Act.put, lA, lZ, lS]
    refine wpAnyH_take (i := 11) (v := ?v11_17) (by simp only [List.getElem?_toArray, List.getElem?_cons_succ, List.getElem?_cons_zero]; rfl) (by kernel_rfl) (by kernel_rfl) (by kernel_rfl) (fun _ _ _ h => h) (Or.inl ⟨by rfl, ?hy11_17⟩) HB25.out ?rest11_17
    case hy11_17 =>
     intro w9 hSw
     obtain ⟨k0, k1, k2, k3, k4, k5⟩ := KC.out _ hSw
     go_simp
     all_goals with_reducible rfl
    try simp only [Act.put, lA, lZ, lS]
    refine wpAnyH_take (i := 12) (v := ?v12_18) (by simp only [List.getElem?_toArray, List.getElem?_cons_succ, List.getElem?_cons_zero]; rfl) (by kernel_rfl) (by kernel_rfl) (by kernel_rfl) (fun _ _ _ h => h) (Or.inl ⟨by rfl, ?hy12_18⟩) HB25.out ?rest12_18
    case hy12_18 =>
     intro w9 hSw
     obtain ⟨k0, k1, k2, k3, k4, k5⟩ := KC.out _ hSw
     go_simp
     all_goals with_reducible rfl
    try simp only [Act.put, lA, lZ, lS]
    refine wpAnyH_ready (rs := [15]) (by kernel_rfl) (by simp) ?_
    refine (AllReadyH.cons (by simp only [List.getElem?_toArray, List.getElem?_cons_succ, List.getElem?_cons_zero]; rfl) (fun K hK => ?_) AllReadyH.nil)
    refine wp_store_row 35 _ _ rfl (V9.heap.size) rfl #[.slice pb banks.length cb, .int .u16 0, .int .u16 vec, .slice none 0 0, .slice none 0 0] rfl HN5_25.out info35 rfl (by simp [Value.oneCell']) ?_
    refine hK.out _ _ (setRow_below HB25.out HN5L.out) (fun hHeld => ?_)
    clear hK K hHeld
    try simp only [Act.put, lA, lZ, lS]
    generalize eV : World.setRow _ _ _ = V26
    have HB26 := Lib.hid (show Below W0.heap.size W0 V26 from eV ▸ setRow_below HB25.out HN5L.out)
    have HNE : Hid (V9.heap.size ≠ V19.heap.size) := Lib.hid (blk_ne HN5_25.out HN6_25.out (by decide))
    have HI_26 : Hid (V26.heap[V9.heap.size]? = some (.cells #[.slice pb banks.length cb, .int .u16 0, .int .u16 vec, .slice none 0 0, .slice none 0 0] 35 (0, 0))) := Lib.hid (sr_blk8 HN5_25.out eV)
    have HN6_26 := Lib.hid (sr_oth8 HNE.out HN6_25.out eV)
    have HIM_26 := Lib.hid (HL_25.out.img.row HN5_25.out eV z35_no)
    have HST_26 := Lib.hid (HL_25.out.state.row HN5_25.out eV (by decide))
    clear eV
    refine wpAnyH_ready (rs := [16]) (by kernel_rfl) (by simp) ?_
    refine (AllReadyH.cons (by simp only [List.getElem?_toArray, List.getElem?_cons_succ, List.getElem?_cons_zero]; rfl) (fun K hK => ?_) AllReadyH.nil)
    refine wp_store_row 43 _ _ rfl (V19.heap.size) rfl (snC m S (.slice p1 l.length c1) (.slice p2 0 c2)) rfl HN6_26.out info43 rfl (snC_one _ _ _ _ _ _ _ _) ?_
    refine hK.out _ _ (setRow_below HB26.out HN6L.out) (fun hHeld => ?_)
    clear hK K hHeld
    try simp only [Act.put, lA, lZ, lS]
    generalize eV : World.setRow _ _ _ = V27
    have HB27 := Lib.hid (show Below W0.heap.size W0 V27 from eV ▸ setRow_below HB26.out HN6L.out)
    have HI_27 := Lib.hid (sr_oth8 HNE.out.symm HI_26.out eV)
    have HX_27 : Hid (V27.heap[V19.heap.size]? = some (.cells (snC m S (.slice p1 l.length c1) (.slice p2 0 c2)) 43 (0, 0))) := Lib.hid (sr_blk8 HN6_26.out eV)
    have HIM_27 := Lib.hid (HIM_26.out.row HN6_26.out eV z43_no)
    have HST_27 := Lib.hid (HST_26.out.row HN6_26.out eV (by decide))
    clear eV
    refine wpAnyH_done (by kernel_rfl) ?_ _
    refine NoPanic.normal ?_
    go_wp2_with fail
    go_meet
    exact ⟨_, _, pb, banks, cb, vec, m, S, l, p1, p2, c1, c2, rfl, rfl, HI_27.out, HX_27.out, ⟨HN5L.out, HN6L.out⟩, HIM_27.out, HST_27.out, HB27.out⟩
  ·go_simp
   refine hK.out _ _ (below_alloc HB9.out _) (fun hHeld => ?_)
   clear hK K hHeld
   try simp only [Act.put, lA, lZ, lS]
   generalize eV : World.alloc _ _ = V28
   have HB28 := Lib.hid (show Below W0.heap.size W0 V28 from eV ▸ below_alloc HB9.out _)
   have HN6_28 : Hid (V28.heap[V9.heap.size]? = some (.cells #[.int .u16 0, .int .u16 0, .int .u16 0, .int .u16 0, .int .u16 0, .int .u16 0, .int .u16 0, .int .u16 0, .int .u16 0, .int .u16 0, .int .u16 0, .int .u16 0, .int .i64 0, .int .i64 0, .int .i64 0, .int .i64 0, .string ⟨#[]⟩, .slice none 0 0, .slice none 0 0] 43 (0, 0))) := Lib.hid (eV ▸ alloc_at V9 _)
   have HN6L : Hid (W0.heap.size ≤ V9.heap.size) := Lib.hid HB9.out.size
   clear eV
   refine wpAnyH_ready (rs := [9, 13]) (by kernel_rfl) (by simp) ?_
   refine (AllReadyH.cons (by simp only [List.getElem?_toArray, List.getElem?_cons_succ, List.getElem?_cons_zero]; rfl) (fun K hK => ?_) (AllReadyH.cons (by simp only [List.getElem?_toArray, List.getElem?_cons_succ, List.getElem?_cons_zero]; rfl) (fun K hK => ?_) AllReadyH.nil))
   ·go_simp
    go_at_call 40
    refine (laid_some p q cap n0 n1 n2 n3 _ (((HP.out.next (below_next HB0.out HB28.out)).up (below_next HB0.out HB28.out).size).take HQN.out.1) HQN.out.2.1 HQN.out.2.2).mono ?_
    rintro e V29 ⟨pb, banks, cb, vec, m, S, l, p1, p2, c1, c2, rfl, hl9, h9⟩
    refine hK.out _ _ (below_next HB28.out h9) (fun hHeld => ?_)
    have HB29 := Lib.hid (below_next HB28.out h9)
    have HN6_29 := Lib.hid (at_next h9 HN6_28.out)
    have HL_29 := Lib.hid hl9
    clear hK K hHeld hl9 h9
    try simp only [Act.put, lA, lZ, lS]
    refine wpAnyH_take (i := 10) (v := ?v10_19) (by simp only [List.getElem?_toArray, List.getElem?_cons_succ, List.getElem?_cons_zero]; rfl) (by kernel_rfl) (by kernel_rfl) (by kernel_rfl) (fun _ _ _ h => h) (Or.inl ⟨by rfl, ?hy10_19⟩) HB29.out ?rest10_19
    case hy10_19 =>
     intro w9 hSw
     obtain ⟨k0, k1, k2, k3, k4, k5⟩ := KC.out _ hSw
     go_simp
     all_goals with_reducible rfl
    try simp only [Act.put, lA, lZ, lS]
    refine wpAnyH_take (i := 11) (v := ?v11_20) (by simp only [List.getElem?_toArray, List.getElem?_cons_succ, List.getElem?_cons_zero]; rfl) (by kernel_rfl) (by kernel_rfl) (by kernel_rfl) (fun _ _ _ h => h) (Or.inl ⟨by rfl, ?hy11_20⟩) HB29.out ?rest11_20
    case hy11_20 =>
     intro w9 hSw
     obtain ⟨k0, k1, k2, k3, k4, k5⟩ := KC.out _ hSw
     go_simp
     all_goals with_reducible rfl
    try simp only [Act.put, lA, lZ, lS]
    refine wpAnyH_take (i := 12) (v := ?v12_21) (by simp only [List.getElem?_toArray, List.getElem?_cons_succ, List.getElem?_cons_zero]; rfl) (by kernel_rfl) (by kernel_rfl) (by kernel_rfl) (fun _ _ _ h => h) (Or.inl ⟨by rfl, ?hy12_21⟩) HB29.out ?rest12_21
    case hy12_21 =>
     intro w9 hSw
     obtain ⟨k0, k1, k2, k3, k4, k5⟩ := KC.out _ hSw
     go_simp
     all_goals with_reducible rfl
    try simp only [Act.put, lA, lZ, lS]
    refine wpAnyH_ready (rs := [13]) (by kernel_rfl) (by simp) ?_
    refine (AllReadyH.cons (by simp only [List.getElem?_toArray, List.getElem?_cons_succ, List.getElem?_cons_zero]; rfl) (fun K hK => ?_) AllReadyH.nil)
    go_simp
    refine hK.out _ _ (below_alloc HB29.out _) (fun hHeld => ?_)
    clear hK K hHeld
    try simp only [Act.put, lA, lZ, lS]
    generalize eV : World.alloc _ _ = V30
    have HB30 := Lib.hid (show Below W0.heap.size W0 V30 from eV ▸ below_alloc HB29.out _)
    have HN5_30 : Hid (V30.heap[V29.heap.size]? = some (.cells #[.slice none 0 0, .int .u16 0, .int .u16 0, .slice none 0 0, .slice none 0 0] 35 (0, 0))) := Lib.hid (eV ▸ alloc_at V29 _)
    have HN5L : Hid (W0.heap.size ≤ V29.heap.size) := Lib.hid HB29.out.size
    have HN6_30 := Lib.hid (at_next (al_bel eV) HN6_29.out)
    have HL_30 := Lib.hid (HL_29.out.next (al_bel eV))
    clear eV
    refine wpAnyH_ready (rs := [15]) (by kernel_rfl) (by simp) ?_
    refine (AllReadyH.cons (by simp only [List.getElem?_toArray, List.getElem?_cons_succ, List.getElem?_cons_zero]; rfl) (fun K hK => ?_) AllReadyH.nil)
    refine wp_store_row 35 _ _ rfl (V29.heap.size) rfl #[.slice pb banks.length cb, .int .u16 0, .int .u16 vec, .slice none 0 0, .slice none 0 0] rfl HN5_30.out info35 rfl (by simp [Value.oneCell']) ?_
    refine hK.out _ _ (setRow_below HB30.out HN5L.out) (fun hHeld => ?_)
    clear hK K hHeld
    try simp only [Act.put, lA, lZ, lS]
    generalize eV : World.setRow _ _ _ = V31
    have HB31 := Lib.hid (show Below W0.heap.size W0 V31 from eV ▸ setRow_below HB30.out HN5L.out)
    have HNE : Hid (V29.heap.size ≠ V9.heap.size) := Lib.hid (blk_ne HN5_30.out HN6_30.out (by decide))
    have HI_31 : Hid (V31.heap[V29.heap.size]? = some (.cells #[.slice pb banks.length cb, .int .u16 0, .int .u16 vec, .slice none 0 0, .slice none 0 0] 35 (0, 0))) := Lib.hid (sr_blk8 HN5_30.out eV)
    have HN6_31 := Lib.hid (sr_oth8 HNE.out HN6_30.out eV)
    have HIM_31 := Lib.hid (HL_30.out.img.row HN5_30.out eV z35_no)
    have HST_31 := Lib.hid (HL_30.out.state.row HN5_30.out eV (by decide))
    clear eV
    refine wpAnyH_ready (rs := [16]) (by kernel_rfl) (by simp) ?_
    refine (AllReadyH.cons (by simp only [List.getElem?_toArray, List.getElem?_cons_succ, List.getElem?_cons_zero]; rfl) (fun K hK => ?_) AllReadyH.nil)
    refine wp_store_row 43 _ _ rfl (V9.heap.size) rfl (snC m S (.slice p1 l.length c1) (.slice p2 0 c2)) rfl HN6_31.out info43 rfl (snC_one _ _ _ _ _ _ _ _) ?_
    refine hK.out _ _ (setRow_below HB31.out HN6L.out) (fun hHeld => ?_)
    clear hK K hHeld
    try simp only [Act.put, lA, lZ, lS]
    generalize eV : World.setRow _ _ _ = V32
    have HB32 := Lib.hid (show Below W0.heap.size W0 V32 from eV ▸ setRow_below HB31.out HN6L.out)
    have HI_32 := Lib.hid (sr_oth8 HNE.out.symm HI_31.out eV)
    have HX_32 : Hid (V32.heap[V9.heap.size]? = some (.cells (snC m S (.slice p1 l.length c1) (.slice p2 0 c2)) 43 (0, 0))) := Lib.hid (sr_blk8 HN6_31.out eV)
    have HIM_32 := Lib.hid (HIM_31.out.row HN6_31.out eV z43_no)
    have HST_32 := Lib.hid (HST_31.out.row HN6_31.out eV (by decide))
    clear eV
    refine wpAnyH_done (by kernel_rfl) ?_ _
    refine NoPanic.normal ?_
    go_wp2_with fail
    go_meet
    exact ⟨_, _, pb, banks, cb, vec, m, S, l, p1, p2, c1, c2, rfl, rfl, HI_32.out, HX_32.out, ⟨HN5L.out, HN6L.out⟩, HIM_32.out, HST_32.out, HB32.out⟩
   ·go_simp
    refine hK.out _ _ (below_alloc HB28.out _) (fun hHeld => ?_)
    clear hK K hHeld
    try simp only [Act.put, lA, lZ, lS]
    generalize eV : World.alloc _ _ = V33
    have HB33 := Lib.hid (show Below W0.heap.size W0 V33 from eV ▸ below_alloc HB28.out _)
    have HN5_33 : Hid (V33.heap[V28.heap.size]? = some (.cells #[.slice none 0 0, .int .u16 0, .int .u16 0, .slice none 0 0, .slice none 0 0] 35 (0, 0))) := Lib.hid (eV ▸ alloc_at V28 _)
    have HN5L : Hid (W0.heap.size ≤ V28.heap.size) := Lib.hid HB28.out.size
    have HN6_33 := Lib.hid (at_next (al_bel eV) HN6_28.out)
    clear eV
    refine wpAnyH_ready (rs := [9]) (by kernel_rfl) (by simp) ?_
    refine (AllReadyH.cons (by simp only [List.getElem?_toArray, List.getElem?_cons_succ, List.getElem?_cons_zero]; rfl) (fun K hK => ?_) AllReadyH.nil)
    go_simp
    go_at_call 40
    refine (laid_some p q cap n0 n1 n2 n3 _ (((HP.out.next (below_next HB0.out HB33.out)).up (below_next HB0.out HB33.out).size).take HQN.out.1) HQN.out.2.1 HQN.out.2.2).mono ?_
    rintro e V34 ⟨pb, banks, cb, vec, m, S, l, p1, p2, c1, c2, rfl, hl9, h9⟩
    refine hK.out _ _ (below_next HB33.out h9) (fun hHeld => ?_)
    have HB34 := Lib.hid (below_next HB33.out h9)
    have HN6_34 := Lib.hid (at_next h9 HN6_33.out)
    have HN5_34 := Lib.hid (at_next h9 HN5_33.out)
    have HL_34 := Lib.hid hl9
    clear hK K hHeld hl9 h9
    try simp only [Act.put, lA, lZ, lS]
    refine wpAnyH_take (i := 10) (v := ?v10_22) (by simp only [List.getElem?_toArray, List.getElem?_cons_succ, List.getElem?_cons_zero]; rfl) (by kernel_rfl) (by kernel_rfl) (by kernel_rfl) (fun _ _ _ h => h) (Or.inl ⟨by rfl, ?hy10_22⟩) HB34.out ?rest10_22
    case hy10_22 =>
     intro w9 hSw
     obtain ⟨k0, k1, k2, k3, k4, k5⟩ := KC.out _ hSw
     go_simp
     all_goals with_reducible rfl
    try simp only [Act.put, lA, lZ, lS]
    refine wpAnyH_take (i := 11) (v := ?v11_23) (by simp only [List.getElem?_toArray, List.getElem?_cons_succ, List.getElem?_cons_zero]; rfl) (by kernel_rfl) (by kernel_rfl) (by kernel_rfl) (fun _ _ _ h => h) (Or.inl ⟨by rfl, ?hy11_23⟩) HB34.out ?rest11_23
    case hy11_23 =>
     intro w9 hSw
     obtain ⟨k0, k1, k2, k3, k4, k5⟩ := KC.out _ hSw
     go_simp
     all_goals with_reducible rfl
    try simp only [Act.put, lA, lZ, lS]
    refine wpAnyH_take (i := 12) (v := ?v12_24) (by simp only [List.getElem?_toArray, List.getElem?_cons_succ, List.getElem?_cons_zero]; rfl) (by kernel_rfl) (by kernel_rfl) (by kernel_rfl) (fun _ _ _ h => h) (Or.inl ⟨by rfl, ?hy12_24⟩) HB34.out ?rest12_24
    case hy12_24 =>
     intro w9 hSw
     obtain ⟨k0, k1, k2, k3, k4, k5⟩ := KC.out _ hSw
     go_simp
     all_goals with_reducible rfl
    try simp only [Act.put, lA, lZ, lS]
    refine wpAnyH_ready (rs := [15]) (by kernel_rfl) (by simp) ?_
    refine (AllReadyH.cons (by simp only [List.getElem?_toArray, List.getElem?_cons_succ, List.getElem?_cons_zero]; rfl) (fun K hK => ?_) AllReadyH.nil)
    refine wp_store_row 35 _ _ rfl (V28.heap.size) rfl #[.slice pb banks.length cb, .int .u16 0, .int .u16 vec, .slice none 0 0, .slice none 0 0] rfl HN5_34.out info35 rfl (by simp [Value.oneCell']) ?_
    refine hK.out _ _ (setRow_below HB34.out HN5L.out) (fun hHeld => ?_)
    clear hK K hHeld
    try simp only [Act.put, lA, lZ, lS]
    generalize eV : World.setRow _ _ _ = V35
    have HB35 := Lib.hid (show Below W0.heap.size W0 V35 from eV ▸ setRow_below HB34.out HN5L.out)
    have HNE : Hid (V28.heap.size ≠ V9.heap.size) := Lib.hid (blk_ne HN5_34.out HN6_34.out (by decide))
    have HI_35 : Hid (V35.heap[V28.heap.size]? = some (.cells #[.slice pb banks.length cb, .int .u16 0, .int .u16 vec, .slice none 0 0, .slice none 0 0] 35 (0, 0))) := Lib.hid (sr_blk8 HN5_34.out eV)
    have HN6_35 := Lib.hid (sr_oth8 HNE.out HN6_34.out eV)
    have HIM_35 := Lib.hid (HL_34.out.img.row HN5_34.out eV z35_no)
    have HST_35 := Lib.hid (HL_34.out.state.row HN5_34.out eV (by decide))
    clear eV
    refine wpAnyH_ready (rs := [16]) (by kernel_rfl) (by simp) ?_
    refine (AllReadyH.cons (by simp only [List.getElem?_toArray, List.getElem?_cons_succ, List.getElem?_cons_zero]; rfl) (fun K hK => ?_) AllReadyH.nil)
    refine wp_store_row 43 _ _ rfl (V9.heap.size) rfl (snC m S (.slice p1 l.length c1) (.slice p2 0 c2)) rfl HN6_35.out info43 rfl (snC_one _ _ _ _ _ _ _ _) ?_
    refine hK.out _ _ (setRow_below HB35.out HN6L.out) (fun hHeld => ?_)
    clear hK K hHeld
    try simp only [Act.put, lA, lZ, lS]
    generalize eV : World.setRow _ _ _ = V36
    have HB36 := Lib.hid (show Below W0.heap.size W0 V36 from eV ▸ setRow_below HB35.out HN6L.out)
    have HI_36 := Lib.hid (sr_oth8 HNE.out.symm HI_35.out eV)
    have HX_36 : Hid (V36.heap[V9.heap.size]? = some (.cells (snC m S (.slice p1 l.length c1) (.slice p2 0 c2)) 43 (0, 0))) := Lib.hid (sr_blk8 HN6_35.out eV)
    have HIM_36 := Lib.hid (HIM_35.out.row HN6_35.out eV z43_no)
    have HST_36 := Lib.hid (HST_35.out.row HN6_35.out eV (by decide))
    clear eV
    refine wpAnyH_done (by kernel_rfl) ?_ _
    refine NoPanic.normal ?_
    go_wp2_with fail
    go_meet
    exact ⟨_, _, pb, banks, cb, vec, m, S, l, p1, p2, c1, c2, rfl, rfl, HI_36.out, HX_36.out, ⟨HN5L.out, HN6L.out⟩, HIM_36.out, HST_36.out, HB36.out⟩
 case rest => as_aux_lemma =>
  obtain ⟨N5, N6, pb, banks, cb, vec, m, S, l, p1, p2, c1, c2, rfl, rfl, h5, h6, ⟨hl5, hl6⟩, hi, hs, hb⟩ := hcut
  have H5 := Lib.hid h5
  have H6 := Lib.hid h6
  have HL5 := Lib.hid hl5
  have HL6 := Lib.hid hl6
  have HI := Lib.hid hi
  have HS := Lib.hid hs
  have HBC := Lib.hid hb
  clear h5 h6 hl5 hl6 hi hs hb mA mB m0 m3 m4
  go_upto_region 2 with (fail)
  refine wp_region_noPanic ?_
  refine wp_region_held_drew (S := fun W => W.heap[N5]? = some (.cells #[.slice pb banks.length cb, .int .u16 0, .int .u16 vec, .slice none 0 0, .slice none 0 0] 35 (0, 0)) ∧ W.heap[N6]? = some (.cells (snC m S (.slice p1 l.length c1) (.slice p2 0 c2)) 43 (0, 0)) ∧ W.cell? ⟨w.heap.size, 5, none⟩ = some (.slice pt nt capt)) (by kernel_rfl) ⟨at_next (Below.drew (Below.refl _ _)) H5.out, at_next (Below.drew (Below.refl _ _)) H6.out, (KC.out _ (below_next HBC.out (Below.drew (Below.refl _ _)))).2.2.2.2.2⟩ (fun hHeld => ?_)
  have hbd : Below wc.heap.size wc wc.drew := Below.drew (Below.refl _ _)
  generalize wc.drew = V0 at *
  have HB0' := Lib.hid (below_next HBC.out hbd)
  have H5' := Lib.hid (at_next hbd H5.out)
  have H6' := Lib.hid (at_next hbd H6.out)
  have HI' := Lib.hid (HI.out.next hbd)
  have HS' := Lib.hid (HS.out.next hbd)
  have KS : Hid (∀ W, Below V0.heap.size V0 W → W.heap[N5]? = some (.cells #[.slice pb banks.length cb, .int .u16 0, .int .u16 vec, .slice none 0 0, .slice none 0 0] 35 (0, 0)) ∧ W.heap[N6]? = some (.cells (snC m S (.slice p1 l.length c1) (.slice p2 0 c2)) 43 (0, 0)) ∧ W.cell? ⟨w.heap.size, 5, none⟩ = some (.slice pt nt capt)) := Lib.hid fun W hW => ⟨at_next hW H5'.out, at_next hW H6'.out, (KC.out _ (below_next HB0'.out hW)).2.2.2.2.2⟩
  clear hHeld hbd
  refine wpAnyH_take (i := 0) (v := ?va0) (by simp only [List.getElem?_toArray, List.getElem?_cons_succ, List.getElem?_cons_zero]; rfl) (by kernel_rfl) (by kernel_rfl) (by kernel_rfl) (fun _ _ _ h => h) (Or.inl ⟨by rfl, ?hya0⟩) (KS.out V0 (Below.refl _ _)) ?resta0
  case hya0 =>
   intro w9 hSw
   obtain ⟨q5, q6, qb⟩ := hSw
   refine exec_ldrow 35 (.tmp 5) ?_ N5 ?_ _ q5 Try.underlying35 info35 <;> rfl
  try simp only [Act.put, lA, lZ, lS]
  refine wpAnyH_take (i := 1) (v := ?va1) (by simp only [List.getElem?_toArray, List.getElem?_cons_succ, List.getElem?_cons_zero]; rfl) (by kernel_rfl) (by kernel_rfl) (by kernel_rfl) (fun _ _ _ h => h) (Or.inl ⟨by rfl, ?hya1⟩) (KS.out V0 (Below.refl _ _)) ?resta1
  case hya1 =>
   intro w9 hSw
   obtain ⟨q5, q6, qb⟩ := hSw
   refine exec_ldrow 43 (.tmp 6) ?_ N6 ?_ _ q6 Try.underlying43 info43 <;> rfl
  try simp only [Act.put, lA, lZ, lS]
  refine wpAnyH_take (i := 2) (v := ?va2) (by simp only [List.getElem?_toArray, List.getElem?_cons_succ, List.getElem?_cons_zero]; rfl) (by kernel_rfl) (by kernel_rfl) (by kernel_rfl) (fun _ _ _ h => h) (Or.inl ⟨by rfl, ?hya2⟩) (KS.out V0 (Below.refl _ _)) ?resta2
  case hya2 =>
   intro w9 hSw
   obtain ⟨q5, q6, qb⟩ := hSw
   go_simp
   all_goals with_reducible rfl
  try simp only [Act.put, lA, lZ, lS]
  refine wpAnyH_take (i := 3) (v := ?va3) (by simp only [List.getElem?_toArray, List.getElem?_cons_succ, List.getElem?_cons_zero]; rfl) (by kernel_rfl) (by kernel_rfl) (by kernel_rfl) (fun _ _ _ h => h) (Or.inl ⟨by rfl, ?hya3⟩) (KS.out V0 (Below.refl _ _)) ?resta3
  case hya3 =>
   intro w9 hSw
   obtain ⟨q5, q6, qb⟩ := hSw
   go_simp
   all_goals with_reducible rfl
  try simp only [Act.put, lA, lZ, lS]
  refine wpAnyH_ready (rs := [4]) (by kernel_rfl) (by simp) ?_
  refine (AllReadyH.cons (by simp only [List.getElem?_toArray, List.getElem?_cons_succ, List.getElem?_cons_zero]; rfl) (fun K hK => ?_) AllReadyH.nil)
  go_simp
  go_at_call 41
  refine (tape_some pt nt capt L _ (row_low HT.out (below_next HB0.out HB0'.out)) HLN.out HNT.out).mono ?_
  rintro e V1 ⟨pin, cin, tin, pirq, cirq, tirq, rfl, htp, h9⟩
  refine hK.out _ _ (KS.out _ h9) (fun hHeld => ?_)
  have HB1 := Lib.hid (below_next HB0'.out h9)
  have HI1 := Lib.hid (HI'.out.next h9)
  have HS1 := Lib.hid (HS'.out.next h9)
  have HT1 := Lib.hid htp
  have H51' := Lib.hid (KS.out _ h9)
  have HA1 := Lib.hid (at_next HB1.out H35.out)
  have HC1 := Lib.hid (at_next HB1.out H43.out)
  have HD1 := Lib.hid (at_next HB1.out H51.out)
  have HBW1 := Lib.hid (below_next HB0.out HB1.out)
  clear hK K hHeld htp h9
  try simp only [Act.put, lA, lZ, lS]
  refine wpAnyH_ready (rs := [5]) (by kernel_rfl) (by simp) ?_
  refine (AllReadyH.cons (by simp only [List.getElem?_toArray, List.getElem?_cons_succ, List.getElem?_cons_zero]; rfl) (fun K hK => ?_) AllReadyH.nil)
  refine wp_store_row 35 _ _ rfl (w.heap.size + 1) rfl #[.slice pb banks.length cb, .int .u16 0, .int .u16 vec, .slice none 0 0, .slice none 0 0] rfl HA1.out info35 rfl (by simp [Value.oneCell']) ?_
  refine hK.out _ _ ⟨(setRow_other _ _ _ _ (by have := HL5.out; have := HSZ.out; omega)).trans H51'.out.1, (setRow_other _ _ _ _ (by have := HL6.out; have := HSZ.out; omega)).trans H51'.out.2.1, (cell_row8 (by omega)).trans H51'.out.2.2⟩ (fun hHeld => ?_)
  clear hK K
  try simp only [Act.put, lA, lZ, lS]
  generalize eV : World.setRow _ _ _ = V2 at hHeld ⊢
  have HHELD := Lib.hid hHeld
  clear H51'
  have H51' := Lib.hid HHELD.out
  clear HHELD hHeld
  have HI2 := Lib.hid (HI1.out.row HA1.out eV z35_no)
  have HS2 := Lib.hid (HS1.out.row HA1.out eV (by decide))
  have HT2 := Lib.hid (HT1.out.row HA1.out eV (by decide))
  have HBW2 : Hid (Below w.heap.size w V2) := Lib.hid (eV ▸ setRow_below HBW1.out (by omega))
  have HA2 := Lib.hid (sr_blk8 (C := #[.slice pb banks.length cb, .int .u16 0, .int .u16 vec, .slice none 0 0, .slice none 0 0]) HA1.out eV)
  have HC2 := Lib.hid (sr_oth8 (A := w.heap.size + 1) (by omega) HC1.out eV)
  have HD2 := Lib.hid (sr_oth8 (A := w.heap.size + 1) (by omega) HD1.out eV)
  clear eV
  refine wpAnyH_ready (rs := [6]) (by kernel_rfl) (by simp) ?_
  refine (AllReadyH.cons (by simp only [List.getElem?_toArray, List.getElem?_cons_succ, List.getElem?_cons_zero]; rfl) (fun K hK => ?_) AllReadyH.nil)
  refine wp_store_row 43 _ _ rfl (w.heap.size + 1 + 1) rfl (snC m S (.slice p1 l.length c1) (.slice p2 0 c2)) rfl HC2.out info43 rfl (snC_one _ _ _ _ _ _ _ _) ?_
  refine hK.out _ _ ⟨(setRow_other _ _ _ _ (by have := HL5.out; have := HSZ.out; omega)).trans H51'.out.1, (setRow_other _ _ _ _ (by have := HL6.out; have := HSZ.out; omega)).trans H51'.out.2.1, (cell_row8 (by omega)).trans H51'.out.2.2⟩ (fun hHeld => ?_)
  clear hK K
  try simp only [Act.put, lA, lZ, lS]
  generalize eV : World.setRow _ _ _ = V3 at hHeld ⊢
  have HHELD := Lib.hid hHeld
  clear H51'
  have H51' := Lib.hid HHELD.out
  clear HHELD hHeld
  have HI3 := Lib.hid (HI2.out.row HC2.out eV z43_no)
  have HS3 := Lib.hid (HS2.out.row HC2.out eV (by decide))
  have HT3 := Lib.hid (HT2.out.row HC2.out eV (by decide))
  have HBW3 : Hid (Below w.heap.size w V3) := Lib.hid (eV ▸ setRow_below HBW2.out (by omega))
  have HA3 := Lib.hid (sr_oth8 (A := w.heap.size + 1 + 1) (by omega) HA2.out eV)
  have HC3 := Lib.hid (sr_blk8 (C := (snC m S (.slice p1 l.length c1) (.slice p2 0 c2))) HC2.out eV)
  have HD3 := Lib.hid (sr_oth8 (A := w.heap.size + 1 + 1) (by omega) HD2.out eV)
  clear eV
  refine wpAnyH_ready (rs := [7]) (by kernel_rfl) (by simp) ?_
  refine (AllReadyH.cons (by simp only [List.getElem?_toArray, List.getElem?_cons_succ, List.getElem?_cons_zero]; rfl) (fun K hK => ?_) AllReadyH.nil)
  refine wp_store_row 51 _ _ rfl (w.heap.size + 1 + 1 + 1) rfl #[.slice pin tin.length cin, .slice pirq tirq.length cirq] rfl HD3.out info51 rfl (by simp [Value.oneCell']) ?_
  refine hK.out _ _ ⟨(setRow_other _ _ _ _ (by have := HL5.out; have := HSZ.out; omega)).trans H51'.out.1, (setRow_other _ _ _ _ (by have := HL6.out; have := HSZ.out; omega)).trans H51'.out.2.1, (cell_row8 (by omega)).trans H51'.out.2.2⟩ (fun hHeld => ?_)
  clear hK K
  try simp only [Act.put, lA, lZ, lS]
  generalize eV : World.setRow _ _ _ = V4 at hHeld ⊢
  have HHELD := Lib.hid hHeld
  clear H51'
  have H51' := Lib.hid HHELD.out
  clear HHELD hHeld
  have HI4 := Lib.hid (HI3.out.row HD3.out eV z51_no)
  have HS4 := Lib.hid (HS3.out.row HD3.out eV (by decide))
  have HT4 := Lib.hid (HT3.out.row HD3.out eV (by decide))
  have HBW4 : Hid (Below w.heap.size w V4) := Lib.hid (eV ▸ setRow_below HBW3.out (by omega))
  have HA4 := Lib.hid (sr_oth8 (A := w.heap.size + 1 + 1 + 1) (by omega) HA3.out eV)
  have HC4 := Lib.hid (sr_oth8 (A := w.heap.size + 1 + 1 + 1) (by omega) HC3.out eV)
  have HD4 := Lib.hid (sr_blk8 (C := #[.slice pin tin.length cin, .slice pirq tirq.length cirq]) HD3.out eV)
  clear eV
  refine wpAnyH_done (by kernel_rfl) ?_ _
  refine NoPanic.normal ?_
  go_wp2_with fail
  exact bodyPost_ret (v := .tuple #[.agg #[.slice pb banks.length cb, .int .u16 0, .int .u16 vec, .slice none 0 0, .slice none 0 0], .agg (snC m S (.slice p1 l.length c1) (.slice p2 0 c2)), .agg #[.slice pin tin.length cin, .slice pirq tirq.length cirq]]) (rows_result3 rfl _ _ _ _ _ _ _ _ 35 43 51 rfl rfl rfl HA4.out HC4.out HD4.out Try.underlying35 Try.underlying43 Try.underlying51 info35 info43 info51) rfl ⟨pb, banks, cb, vec, m, S, l, p1, p2, c1, c2, pin, cin, tin, pirq, cirq, tirq, rfl, HI4.out, HS4.out, HT4.out, HBW4.out⟩
end Go.Proofs.Ytieaicdihingkaa
