/- The reference's machine in memory: load, snap, and Same true on states that are equal when made normal. -/
import Derived.Test.YtieaicdihingkaaGreatHK
import Derived.Laws.OwnMore
import Derived.Deep.Upon
import Derived.ChangeKeysEq
namespace Go.Proofs.YtieaicdihingkaaGreat
set_option linter.unusedVariables false
set_option linter.unusedSimpArgs false
open Go.RowKit
/-- Where a slice's cells lie: nil, or from the start of a block on. -/
def RowSrc (w : World) (p : Option Addr) (n c : Nat) (xs : List Value) : Prop := (p = none ∧ n = 0 ∧ c = 0 ∧ xs = []) ∨ ∃ g, p = some ⟨g, 0, none⟩ ∧ g < w.heap.size ∧ ∀ j u, xs[j]? = some u → w.cell? ⟨g, j, none⟩ = some u
theorem RowSrc.next {w w' : World} {p : Option Addr} {n c : Nat} {xs : List Value} (h : RowSrc w p n c xs) (hb : Below w.heap.size w w') : RowSrc w' p n c xs := by
 rcases h with h | ⟨g, e, hg, hc⟩
 ·exact .inl h
 ·exact .inr ⟨g, e, Nat.lt_of_lt_of_le hg hb.size, fun j u hu => (hb.cell (p := ⟨g, j, none⟩) hg).trans (hc j u hu)⟩
theorem own_rowSrc {w : World} {base e size n : Nat} {p : Option Addr} {k c : Nat} {xs : List Value} (h : w.ownsRow base e size (.slice p k c) n xs) (hs : 0 < size) : RowSrc w p k c xs := by
 rcases h.2 with ⟨e0, h0⟩ | ⟨g, cap, cur, e1, hb, hg, hnc, hcm, hcs, ht⟩
 ·have e9 : p = none ∧ k = 0 ∧ c = 0 := by simpa using e0
  have hx := h.1
  rw [h0, Nat.zero_mul] at hx
  exact .inl ⟨e9.1, e9.2.1, e9.2.2, List.length_eq_zero_iff.1 hx⟩
 ·injection e1 with e1 e2 e3
  refine .inr ⟨g, e1, at_lt hg, fun j u hu => ?_⟩
  rw [Lib.cell_of_heap hg j]
  rw [← ht, List.getElem?_take] at hu
  split at hu
  ·simpa using hu
  ·cases hu
theorem addr_add (g j : Nat) : (⟨g, 0, none⟩ : Addr).add j = ⟨g, j, none⟩ := by unfold Addr.add; by_cases hj : j = 0 <;> simp [hj]
theorem wp_app {o : Oper} {a : Act} {K : Act → World → Prop} {Q : Exit → Act → World → Prop} {w : World} (s x : Operand) (t e : TypeId) (z : Value) (size bytes : Nat) (ho : o.op = .call { callee := .builtin .append, args := #[s, x], argTypes := #[t, t] }) (ht : Tryz.prog.underlying t = some (.slice e)) (hi : (Tryz.prog.info? e).map (fun i => (i.zero, i.size, i.bytes)) = some (some z, size, bytes)) (hzs : z.cells.size = size) (hsz : 0 < size)
  (base : Nat) (v : Value) (n : Nat) (xs : List Value) (hs : a.eval s = v) (hown : w.ownsRow base e size v n xs) (p : Option Addr) (m c : Nat) (news : List Value) (hx : a.eval x = .slice p m c) (hl : news.length = m * size) (hr : RowSrc w p m c news) (h1 : ∀ u ∈ news, u.oneCell' = true) (h63 : n + m ≤ maxLen) (hbytes : (n + m) * bytes ≤ 140737488355328) (hbase : base ≤ w.heap.size)
  (h : ∀ v' w', w'.ownsRow base e size v' (n + m) (xs ++ news) → w.grownBy w' v.ownBlock → (m = 0 → v = .slice none 0 0 → v' = .slice none 0 0) → K (a.put o.dst v') w') : o.wp Tryz.prog a w K Q := by
 obtain ⟨i, hi1, hz, hsize, hby⟩ : ∃ i, Tryz.prog.info? e = some i ∧ i.zero = some z ∧ i.size = size ∧ i.bytes = bytes := by
  cases h : Tryz.prog.info? e with
  | none => rw [h] at hi; cases hi
  | some i => rw [h] at hi; simp at hi; exact ⟨i, rfl, hi⟩
 rcases hr with ⟨rfl, rfl, rfl, rfl⟩ | ⟨g, rfl, hg, hc⟩
 ·have hrun := run_append_owned_none (P := Tryz.prog) (w := w) base t o.type e i size ht hi1 v n xs hown
  have hk := h v w (by rw [List.append_nil]; exact hown) (grown_below (Below.refl w.heap.size w) _) (fun _ e => e)
  unfold Oper.wp execOp
  simp only [ho, resolve, invoke, builtin, Sem.run_bind, Sem.run_pure, Result.andThen_ok, List.map_toArray, List.map_cons, List.map_nil, hs, hx, hrun]
  exact hk
 ·obtain ⟨v', w', hrun, h2, h3, h4⟩ := run_append_own (P := Tryz.prog) w base t o.type e i z size bytes ht hi1 hz hsize hby hzs hsz v n xs hown ⟨g, 0, none⟩ m c news hl (fun j u hu => by rw [addr_add]; exact hc j u hu) h1 h63 hbytes hbase
  unfold Oper.wp execOp
  simp only [ho, resolve, invoke, builtin, Sem.run_bind, Sem.run_pure, Result.andThen_ok, List.map_toArray, List.map_cons, List.map_nil, hs, hx, hrun]
  exact h v' w' h2 h3 (fun e1 e2 => h4.2 ⟨e2, e1⟩)
/-- An append to an empty slice: new memory alone. -/
theorem wp_app0 {o : Oper} {a : Act} {K : Act → World → Prop} {Q : Exit → Act → World → Prop} {w : World} (s x : Operand) (t e : TypeId) (z : Value) (size bytes : Nat) (ho : o.op = .call { callee := .builtin .append, args := #[s, x], argTypes := #[t, t] }) (ht : Tryz.prog.underlying t = some (.slice e)) (hi : (Tryz.prog.info? e).map (fun i => (i.zero, i.size, i.bytes)) = some (some z, size, bytes)) (hzs : z.cells.size = size) (hsz : 0 < size)
  (base g0 : Nat) (hs : a.eval s = .slice (some ⟨g0, 0, none⟩) 0 0) (hown : w.ownsRow base e size (.slice (some ⟨g0, 0, none⟩) 0 0) 0 []) (p : Option Addr) (m c : Nat) (news : List Value) (hx : a.eval x = .slice p m c) (hl : news.length = m * size) (hr : RowSrc w p m c news) (h1 : ∀ u ∈ news, u.oneCell' = true) (h63 : m ≤ maxLen) (hbytes : m * bytes ≤ 140737488355328) (hbase : base ≤ w.heap.size)
  (h : ∀ v' w', w'.ownsRow base e size v' m news → Below w.heap.size w w' → K (a.put o.dst v') w') : o.wp Tryz.prog a w K Q := by
 obtain ⟨i, hi1, hz, hsize, hby⟩ : ∃ i, Tryz.prog.info? e = some i ∧ i.zero = some z ∧ i.size = size ∧ i.bytes = bytes := by
  cases h : Tryz.prog.info? e with
  | none => rw [h] at hi; cases hi
  | some i => rw [h] at hi; simp at hi; exact ⟨i, rfl, hi⟩
 by_cases hm : m = 0
 ·subst hm
  obtain rfl : news = [] := List.length_eq_zero_iff.1 (by omega)
  have hk := h _ w hown (Below.refl w.heap.size w)
  rcases hr with ⟨rfl, _, rfl, _⟩ | ⟨g, rfl, hg, hc⟩
  ·have hrun := run_append_owned_none (P := Tryz.prog) (w := w) base t o.type e i size ht hi1 _ 0 [] hown
   unfold Oper.wp execOp
   simp only [ho, resolve, invoke, builtin, Sem.run_bind, Sem.run_pure, Result.andThen_ok, List.map_toArray, List.map_cons, List.map_nil, hs, hx, hrun]
   exact hk
  ·have hrun := run_append_nothing (P := Tryz.prog) w t t o.type e i ht hi1 (some ⟨g0, 0, none⟩) 0 0 (Nat.le_refl _) _ (Src.ofSlice (P := Tryz.prog) w ht ⟨g, 0, none⟩ 0 c [] (by simp) (by simp) (by simp))
   unfold Oper.wp execOp
   simp only [ho, resolve, invoke, builtin, Sem.run_bind, Sem.run_pure, Result.andThen_ok, List.map_toArray, List.map_cons, List.map_nil, hs, hx, hrun]
   exact hk
 ·rcases hr with ⟨_, e1, _⟩ | ⟨g, rfl, hg, hc⟩
  ·exact absurd e1 hm
  ·have hc' : ∀ j u, news[j]? = some u → w.cell? ((⟨g, 0, none⟩ : Addr).add j) = some u := fun j u hu => by rw [addr_add]; exact hc j u hu
   obtain ⟨v', w', hrun, h2, _⟩ := run_append_own (P := Tryz.prog) w base t o.type e i z size bytes ht hi1 hz hsize hby hzs hsz _ 0 [] hown ⟨g, 0, none⟩ m c news hl hc' h1 (by omega) (by rw [Nat.zero_add]; exact hbytes) hbase
   have hgr := run_append_grow (P := Tryz.prog) w t o.type e i z ht hi1 hz ⟨g0, 0, none⟩ 0 0 [] (by simp) (fun j v hj => by simp at hj) ⟨g, 0, none⟩ m c news (by rw [hsize]; exact hl) hc' (by omega) (by unfold maxLen at h63; omega) (growslice_fits (by omega) (by rw [hby, Nat.zero_add]; exact hbytes))
   rw [Nat.zero_add, List.nil_append] at h2
   have hbw : Below w.heap.size w w' := by
    rw [hgr] at hrun
    injection hrun with _ e2
    subst e2
    exact below_alloc (Below.drew (Below.refl _ _)) _
   unfold Oper.wp execOp
   simp only [ho, resolve, invoke, builtin, Sem.run_bind, Sem.run_pure, Result.andThen_ok, List.map_toArray, List.map_cons, List.map_nil, hs, hx, hrun]
   exact h v' w' h2 hbw
/-- The cells of the reference's machine. -/
def rcells (E : Env) (m : Mach) (g : Nat) (sv ov : Value) (tk ti : Int) : List Value := mcells { E with ramB := g } m sv ov ++ [.int .i64 tk, .int .u16 ti]
structure RefAt (base : Nat) (E : Env) (B g : Nat) (m : Mach) (sv ov : Value) (tk ti : Int) (V : World) : Prop where
 blk : V.heap[B]? = some (.cells (rcells E m g sv ov tk ti).toArray 59 (0, 0))
 ram : ∃ cur, V.heap[g]? = some (.cells cur 5 (0, 0)) ∧ cur.size = 8192 ∧ ∀ j, j < 8192 → cur[j]? = some (.int .u8 (m.ram j))
 st : V.ownsRow base 22 1 sv m.st.length (m.st.map (Value.int .u16))
 out : V.ownsRow base 51 2 ov m.out.length (outC m.out)
 low : base ≤ B ∧ base ≤ g
theorem RefAt.next {base : Nat} {E : Env} {B g : Nat} {m : Mach} {sv ov : Value} {tk ti : Int} {V V' : World} (h : RefAt base E B g m sv ov tk ti V) (hb : Below V.heap.size V V') : RefAt base E B g m sv ov tk ti V' := by
 obtain ⟨cur, h1, h2, h3⟩ := h.ram
 exact ⟨at_next hb h.blk, ⟨cur, at_next hb h1, h2, h3⟩, own_next h.st hb, own_next h.out hb, h.low⟩
theorem RefAt.cell {base : Nat} {E : Env} {B g : Nat} {m : Mach} {sv ov : Value} {tk ti : Int} {V : World} (h : RefAt base E B g m sv ov tk ti V) (k : Nat) (v : Value) (hk : (rcells E m g sv ov tk ti)[k]? = some v) : V.cell? ⟨B, k, none⟩ = some v := by
 rw [Lib.cell_of_heap h.blk k, List.getElem?_toArray]
 exact hk
theorem RefAt.frz {base : Nat} {E : Env} {B g : Nat} {m : Mach} {sv ov : Value} {tk ti : Int} {V : World} (h : RefAt base E B g m sv ov tk ti V) (k : Nat) : V.frozen? ⟨B, k, none⟩ = false := at_fr h.blk k
theorem RefAt.ne {base : Nat} {E : Env} {B g : Nat} {m : Mach} {sv ov : Value} {tk ti : Int} {V : World} (h : RefAt base E B g m sv ov tk ti V) : B ≠ g := fun e => by
 obtain ⟨cur, h1, _⟩ := h.ram
 have h2 := h.blk
 rw [e, h1] at h2
 simp at h2
/-- A store into the machine's block. -/
theorem RefAt.put {base : Nat} {E : Env} {B g : Nat} {m m' : Mach} {sv ov sv' ov' : Value} {tk ti tk' ti' : Int} {V W : World} (h : RefAt base E B g m sv ov tk ti V) (k : Nat) (v : Value) (e : V.setCell ⟨B, k, none⟩ v = W) (hc : rcells E m' g sv' ov' tk' ti' = (rcells E m g sv ov tk ti).set k v) (hr : m'.ram = m.ram)
  (hs : V.ownsRow base 22 1 sv' m'.st.length (m'.st.map (Value.int .u16))) (ho : V.ownsRow base 51 2 ov' m'.out.length (outC m'.out)) : RefAt base E B g m' sv' ov' tk' ti' W := by
 obtain ⟨cur, h1, h2, h3⟩ := h.ram
 refine ⟨?_, ⟨cur, sc_oth h.ne h1 e, h2, by rw [hr]; exact h3⟩, ?_, ?_, h.low⟩
 ·rw [sc_blk h.blk e, hc]
  simp
 ·rw [← e]; exact own_set' hs h.blk (by decide)
 ·rw [← e]; exact own_set' ho h.blk (by decide)
/-- What an append that grows a row leaves. -/
theorem RefAt.grown {base : Nat} {E : Env} {B g : Nat} {m : Mach} {sv ov : Value} {tk ti : Int} {V W : World} {row : Option Nat} (h : RefAt base E B g m sv ov tk ti V) (hg : V.grownBy W row) (hk : ∀ q, row = some q → ∃ c t f, V.heap[q]? = some (.cells c t f) ∧ t ≠ 59 ∧ t ≠ 5) (h1 : sv.ownBlock = none ∨ sv.ownBlock ≠ row) (h2 : ov.ownBlock = none ∨ ov.ownBlock ≠ row) : RefAt base E B g m sv ov tk ti W := by
 obtain ⟨cur, r1, r2, r3⟩ := h.ram
 have hB : some B ≠ row := fun e => by
  obtain ⟨c, t, f, hq, ht, _⟩ := hk B e.symm
  rw [h.blk] at hq
  simp at hq
  exact ht hq.2.1.symm
 have hG : some g ≠ row := fun e => by
  obtain ⟨c, t, f, hq, _, ht⟩ := hk g e.symm
  rw [r1] at hq
  simp at hq
  exact ht hq.2.1.symm
 exact ⟨(hg.block B (at_lt h.blk) hB).trans h.blk, ⟨cur, (hg.block g (at_lt r1) hG).trans r1, r2, r3⟩, h.st.kept hg h1, h.out.kept hg h2, h.low⟩
theorem three_blks (w W : World) (a b c : Obj) (h : ((w.alloc a).alloc b).alloc c = W) : W.heap[w.heap.size]? = some a ∧ W.heap[w.heap.size + 1]? = some b ∧ W.heap[w.heap.size + 1 + 1]? = some c ∧ Below w.heap.size w W := by
 subst h
 have h1 := alloc_at w a
 have h2 := alloc_at (w.alloc a) b
 have h3 := alloc_at ((w.alloc a).alloc b) c
 simp only [World.size_alloc] at h2 h3
 have n1 := below1 (w.alloc a) b
 have n2 := below1 ((w.alloc a).alloc b) c
 exact ⟨at_next n2 (at_next n1 h1), at_next n2 h2, h3, below_alloc (below_alloc (below1 w a) b) c⟩
theorem outC_one (l : List (Int × Int)) : ∀ u ∈ outC l, u.oneCell' = true := by
 intro u hu
 unfold outC at hu
 obtain ⟨e, _, he⟩ := List.mem_flatMap.1 hu
 simp only [List.mem_cons, List.not_mem_nil, or_false] at he
 rcases he with rfl | rfl <;> rfl
theorem RefAt.low' {b base : Nat} {E : Env} {B g : Nat} {m : Mach} {sv ov : Value} {tk ti : Int} {V : World} (h : RefAt base E B g m sv ov tk ti V) (hb : b ≤ base) : RefAt b E B g m sv ov tk ti V := ⟨h.blk, h.ram, own_low h.st hb, own_low h.out hb, Nat.le_trans hb h.low.1, Nat.le_trans hb h.low.2⟩
/-- What load wants of a state. -/
structure LoadIn (w : World) (m : Mach) (S : ByteArray) (l : List Int) (ps po : Option Addr) (cs co : Nat) : Prop where
 st : RowSrc w ps l.length cs (l.map (Value.int .u16))
 out : RowSrc w po m.out.length co (outC m.out)
 len : l.length ≤ 4096
 cap : l.length ≤ cs
 olen : m.out.length ≤ 1000000000000
theorem LoadIn.next {w w' : World} {m : Mach} {S : ByteArray} {l : List Int} {ps po : Option Addr} {cs co : Nat} (h : LoadIn w m S l ps po cs co) (hb : Below w.heap.size w w') : LoadIn w' m S l ps po cs co := ⟨h.st.next hb, h.out.next hb, h.len, h.cap, h.olen⟩
/-- The machine as it is made. -/
def mkM (m : Mach) : Mach := { m with st := [], out := [], ram := fun _ => 0 }
def RBuilt (W0 : World) (E : Env) (m : Mach) (Z : Array Value) (v : Value) (V : World) : Prop := ∃ g, v = .agg (rcells E (mkM m) g (.slice none 0 0) (.slice none 0 0) 0 0).toArray ∧ V.heap[g]? = some (.cells Z 5 (0, 0)) ∧ W0.heap.size ≤ g
def RBox (W0 : World) (E : Env) (m : Mach) (Z : Array Value) (v : Value) (V : World) : Prop := ∃ B g, v = .pointer (some ⟨B, 0, none⟩) ∧ V.heap[B]? = some (.cells (rcells E (mkM m) g (.slice none 0 0) (.slice none 0 0) 0 0).toArray 59 (0, 0)) ∧ W0.heap.size ≤ B ∧ V.heap[g]? = some (.cells Z 5 (0, 0)) ∧ W0.heap.size ≤ g
def RLoadPost (w : World) (E : Env) (m : Mach) (S : ByteArray) (l : List Int) (e : Ending) (w' : World) : Prop :=
 ∃ B g sv ov, e = .returned (.pointer (some ⟨B, 0, none⟩)) ∧ Below w.heap.size w w' ∧ RefAt w.heap.size E B g (normM m S l) sv ov 0 0 w' ∧ (l.length = 0 → sv = .slice none 0 0) ∧ (m.out.length = 0 → ov = .slice none 0 0)
set_option maxRecDepth 20000 in
set_option maxHeartbeats 8000000 in
theorem load_ref {w : World} {E : Env} {m : Mach} {S : ByteArray} {l : List Int} {ps po : Option Addr} {cs co : Nat} (h : LoadIn w m S l ps po cs co) : Calls Tryz.prog 17 #[.agg #[.slice E.pb E.banks.length E.cb, .int .u16 E.entry, .int .u16 E.vector, .slice E.pd E.nd E.cd, .slice E.pr E.nr E.cr], .agg #[.slice E.pin E.tin.length E.cin, .slice E.pirq E.tirq.length E.cirq], .agg #[.int .u16 (m.R 0), .int .u16 (m.R 1), .int .u16 (m.R 2), .int .u16 (m.R 3), .int .u16 (m.R 4), .int .u16 (m.R 5), .int .u16 (m.R 6), .int .u16 (m.R 7), .int .u16 m.pc, .int .u16 m.sp, .int .u16 m.fp, .int .u16 m.f, .int .i64 m.bank, .int .i64 m.steps, .int .i64 m.inputs, .int .i64 m.polls, .string S, .slice ps l.length cs, .slice po m.out.length co]] w (RLoadPost w E m S l) := by
 have H := Lib.hid h
 obtain ⟨Z, hZs, hZ, hmk⟩ := make_bytes 8192 (by decide)
 have HZS := Lib.hid hZs
 have HZ := Lib.hid hZ
 have HMK : Hid (∀ W : World, (Instr.makeSlice 42 (.int .i64 8192) (.int .i64 8192)).run Tryz.prog W = .ok (.slice (some ⟨W.heap.size, 0, none⟩) 8192 8192) (W.alloc (.cells Z 5))) := Lib.hid hmk
 clear h hZs hZ hmk
 go_enter Tryz.func17, Tryz.ntmps17
 go_upto_region 1 with (fail)
 generalize e0 : ((w.alloc _).alloc _).alloc _ = W0
 obtain ⟨hI, hT, hS, hb0⟩ := three_blks _ _ _ _ _ e0
 have HI0 := Lib.hid hI
 have HT0 := Lib.hid hT
 have HS0 := Lib.hid hS
 have HB0 := Lib.hid hb0
 have HL0 := Lib.hid (H.out.next hb0)
 clear e0 hI hT hS hb0
 refine' wp_region_flowR [[], [], [], [(10, 2)], [], [(8, 0), (9, 1), (11, 3), (12, 4)], [(13, 5)], [(8, 0), (9, 1), (10, 2), (11, 3), (12, 4), (13, 5), (14, 6)]] (relL [eqV _, eqV _, eqV _, eqV _, RamTo W0 Z, RBuilt W0 E m Z, RBox W0 E m Z]) (by kernel_rfl) (by kernel_rfl) ?_
 rotate_left 4
 refine FlowR.step ?_ ?_
 ·intro VV hV
  simp only [Dep, lQ]
  intro K hK
  obtain bi := at_next hV HI0.out
  obtain bi0 := Lib.cell_of_heap bi 0
  obtain bi1 := Lib.cell_of_heap bi 1
  obtain bi2 := Lib.cell_of_heap bi 2
  obtain bi3 := Lib.cell_of_heap bi 3
  obtain bi4 := Lib.cell_of_heap bi 4
  simp at bi0 bi1 bi2 bi3 bi4
  go_simp
  refine hK _ _ ?_ (Below.refl _ _)
  simp only [lR]
  exact rfl
 refine FlowR.step ?_ ?_
 ·intro VV hV
  simp only [Dep, lQ]
  intro K hK
  obtain bt := at_next hV HT0.out
  obtain bt0 := Lib.cell_of_heap bt 0
  obtain bt1 := Lib.cell_of_heap bt 1
  simp at bt0 bt1
  go_simp
  refine hK _ _ ?_ (Below.refl _ _)
  simp only [lR]
  exact rfl
 refine FlowR.step ?_ ?_
 ·intro VV hV
  simp only [Dep, lQ]
  intro K hK
  go_simp
  refine hK _ _ ?_ (Below.refl _ _)
  simp only [lR]
  exact rfl
 refine FlowR.step ?_ ?_
 ·intro VV hV
  simp only [Dep, lQ]
  rintro x10 ⟨V10, rfl, hb10⟩
  intro K hK
  obtain bs := at_next hV HS0.out
  obtain bs0 := Lib.cell_of_heap bs 0
  obtain bs1 := Lib.cell_of_heap bs 1
  obtain bs2 := Lib.cell_of_heap bs 2
  obtain bs3 := Lib.cell_of_heap bs 3
  obtain bs4 := Lib.cell_of_heap bs 4
  obtain bs5 := Lib.cell_of_heap bs 5
  obtain bs6 := Lib.cell_of_heap bs 6
  obtain bs7 := Lib.cell_of_heap bs 7
  obtain bs8 := Lib.cell_of_heap bs 8
  obtain bs9 := Lib.cell_of_heap bs 9
  obtain bs10 := Lib.cell_of_heap bs 10
  obtain bs11 := Lib.cell_of_heap bs 11
  obtain bs12 := Lib.cell_of_heap bs 12
  obtain bs13 := Lib.cell_of_heap bs 13
  obtain bs14 := Lib.cell_of_heap bs 14
  obtain bs15 := Lib.cell_of_heap bs 15
  obtain bs16 := Lib.cell_of_heap bs 16
  obtain bs17 := Lib.cell_of_heap bs 17
  obtain bs18 := Lib.cell_of_heap bs 18
  simp at bs0 bs1 bs2 bs3 bs4 bs5 bs6 bs7 bs8 bs9 bs10 bs11 bs12 bs13 bs14 bs15 bs16 bs17 bs18
  go_simp
  refine hK _ _ ?_ (Below.refl _ _)
  simp only [lR]
  exact rfl
 refine FlowR.step ?_ ?_
 ·intro VV hV
  simp only [Dep, lQ]
  intro K hK
  refine (if_pos (by rfl)).mpr ?_
  refine wp_make_bytes rfl (HMK.out _) ?_
  exact hK _ _ ⟨_, rfl, alloc_at _ _, hV.size⟩ (below1 _ _)
 refine FlowR.step ?_ ?_
 ·intro VV hV
  simp only [Dep, lQ]
  rintro x8 ⟨V8, rfl, hb8⟩
  rintro x9 ⟨V9, rfl, hb9⟩
  rintro x11 ⟨V11, rfl, hb11⟩
  rintro x12 ⟨V12, ⟨g, rfl, hg, hgl⟩, hb12⟩
  intro K hK
  go_simp
  exact hK _ _ ⟨g, rfl, at_next hb12 hg, hgl⟩ (Below.refl _ _)
 refine FlowR.step ?_ ?_
 ·intro VV hV
  simp only [Dep, lQ]
  rintro x13 ⟨V13, ⟨g, rfl, hg, hgl⟩, hb13⟩
  intro K hK
  go_simp
  exact hK _ _ ⟨_, g, rfl, alloc_at _ _, hV.size, at_next (below1 _ _) (at_next hb13 hg), hgl⟩ (below1 _ _)
 refine FlowR.last ?_
 intro VV hV
 simp only [Dep, lQ]
 rintro x8 ⟨V8, rfl, hb8⟩
 rintro x9 ⟨V9, rfl, hb9⟩
 rintro x10 ⟨V10, rfl, hb10⟩
 rintro x11 ⟨V11, rfl, hb11⟩
 rintro x12 ⟨V12, ⟨g, rfl, hg, hgl⟩, hb12⟩
 rintro x13 ⟨V13, ⟨g, rfl, hg, hgl⟩, hb13⟩
 rintro x14 ⟨V14, ⟨B, g, rfl, hB, hBl, hg, hgl⟩, hb14⟩
 intro K hK
 go_simp
 refine hK _ _ ?_
 have HB1 := Lib.hid (at_next hb14 hB)
 have HG1 := Lib.hid (at_next hb14 hg)
 have HBL := Lib.hid hBl
 have HGL := Lib.hid hgl
 have HV1 := Lib.hid hV
 clear hK hV hB hBl hg hgl
 go_upto_region 2 with (fail)
 refine' wp_region_flowR [[], [(15, 0)], [(16, 1)], [(17, 2)], [], [(19, 4)], [(15, 0), (16, 1), (17, 2), (18, 3), (19, 4), (20, 5)]] (relL [eqV _, eqV _, eqV _, eqV _, eqV _, eqV _]) (by kernel_rfl) (by kernel_rfl) ?_
 rotate_left 6
 iterate 3
  refine FlowR.step ?_ ?_
  ·intro VV hV
   simp only [Dep, lQ]
   repeat rintro _ ⟨_, rfl, _⟩
   intro K hK
   go_simp
   refine hK _ _ ?_ (Below.refl _ _)
   simp only [lR]
   exact rfl
 refine FlowR.step ?_ ?_
 ·intro VV hV
  simp only [Dep, lQ]
  rintro x17 ⟨V17, rfl, hb17⟩
  intro K hK
  obtain hbk := at_next hV HB1.out
  obtain c23 := Lib.cell_of_heap hbk 23
  obtain hbs := at_next (below_next HV1.out hV) HS0.out
  obtain s16 := Lib.cell_of_heap hbs 16
  simp [rcells, mcells] at c23 s16
  go_simp
  refine hK _ _ ?_ (Below.refl _ _)
  simp only [lR]
  exact rfl
 refine FlowR.step ?_ ?_
 ·intro VV hV
  simp only [Dep, lQ]
  intro K hK
  go_simp
  refine hK _ _ ?_ (Below.refl _ _)
  simp only [lR]
  exact rfl
 refine FlowR.step ?_ ?_
 ·intro VV hV
  simp only [Dep, lQ]
  rintro x19 ⟨V19, rfl, hb19⟩
  intro K hK
  obtain hbk := at_next hV HB1.out
  obtain c23 := Lib.cell_of_heap hbk 23
  obtain hbs := at_next (below_next HV1.out hV) HS0.out
  obtain s16 := Lib.cell_of_heap hbs 16
  simp [rcells, mcells] at c23 s16
  go_simp
  refine hK _ _ ?_ (Below.refl _ _)
  simp only [lR]
  exact rfl
 refine FlowR.last ?_
 intro VV hV
 simp only [Dep, lQ]
 rintro x15 ⟨V15, rfl, hb15⟩
 rintro x16 ⟨V16, rfl, hb16⟩
 rintro x17 ⟨V17, rfl, hb17⟩
 rintro x18 ⟨V18, rfl, hb18⟩
 rintro x19 ⟨V19, rfl, hb19⟩
 rintro x20 ⟨V20, rfl, hb20⟩
 intro K hK
 have HG2 := Lib.hid (at_next hV HG1.out)
 have HB2 := Lib.hid (at_next hV HB1.out)
 have HV2 := Lib.hid (below_next HV1.out hV)
 refine (if_pos (by rfl)).mpr ?_
 refine wp_copy_cut _ _ 42 9 5 rfl g 8192 8192 S Z 5 rfl rfl Tryz.underlying42 info5s HG2.out (Nat.min S.size 8192) rfl (by rw [HZS.out]; exact Nat.min_le_right _ _) ?_
 refine hK _ _ ?_
 obtain ⟨Y, hY⟩ : ∃ Y, ((Lib.byteCells S.data.toList).take (Nat.min S.size 8192) ++ Z.toList.drop (Nat.min S.size 8192)).toArray = Y := ⟨_, rfl⟩
 have HZG : Hid (∀ j, j < 8192 → Y[j]? = some (.int .u8 (byteI S j))) := Lib.hid fun j hj => by
  rw [← hY, List.getElem?_toArray]
  exact copy_get S Z.toList _ 8192 rfl HZ.out j hj
 have HZL : Hid (Y.size = 8192) := Lib.hid (by
  have h1 : Nat.min S.size 8192 ≤ S.size := Nat.min_le_left _ _
  have h2 : Nat.min S.size 8192 ≤ 8192 := Nat.min_le_right _ _
  have h3 := HZS.out
  rw [← hY]
  generalize Nat.min S.size 8192 = q at *
  rw [List.size_toArray, List.length_append, List.length_take, List.length_drop, Lib.byteCells_length, ← Lib.size_eq, Array.length_toList]
  omega)
 rw [hY]
 clear hK hV hY
 simp only [lQ]
 generalize eR : World.setRow _ _ _ = V2
 have HNE : Hid (g ≠ B) := Lib.hid (fun e => by
  have h1 := HB2.out
  rw [← e, HG2.out] at h1
  simp at h1)
 have HR3 : Hid (RefAt W0.heap.size E B g { mkM m with ram := fun j => byteI S j } (.slice none 0 0) (.slice none 0 0) 0 0 V2) := Lib.hid ⟨sr_oth HNE.out HB2.out eR, ⟨Y, sr_blk HG2.out eR, HZL.out, HZG.out⟩, World.ownsRow_nil _ _ _ _, World.ownsRow_nil _ _ _ _, HBL.out, HGL.out⟩
 have HV3 := Lib.hid (sr_bel HV2.out HGL.out eR)
 clear eR HB1 HG1 HV1 HG2 HB2 HV2 HZG HZL HZS HZ HMK HNE
 have m1 : ¬ (4096 : Int) < (l.length : Int) := by have := H.out.len; omega
 have m2 : ¬ 4096 < l.length := by have := H.out.len; omega
 have m3 : (l.length : Int) ≤ (cs : Int) := by have := H.out.cap; omega
 have m4 : l.length ≤ cs := H.out.cap
 go_upto_region 3 with (fail)
 refine' wp_region_flowT [4, 6, 8] [12, 15] [[], [], [(23, 1)], [(24, 2)], [(25, 3)], [], [(27, 5)], [], [(29, 7)], [(30, 8)], [(31, 9)], [(28, 6), (32, 10)], [(26, 4), (33, 11)], [(22, 0)], [(35, 13)], [(36, 14), (34, 12)]] [(22, 0), (23, 1), (24, 2), (25, 3), (26, 4), (27, 5), (28, 6), (29, 7), (30, 8), (31, 9), (32, 10), (33, 11), (35, 13), (36, 14)] (relL [eqV _, eqV _, eqV _, eqV _, eqV _, eqV _, eqV _, eqV _, eqV _, eqV _, eqV _, eqV _, eqV undef, eqV _, eqV _, eqV undef]) [(12, _), (15, _)] (by kernel_rfl) (by kernel_rfl) rfl ?_ ?_
 rotate_left 14
 ·refine FlowT.val (by decide) _ (fun _ _ => Iff.rfl) ?_ ?_
  ·simp only [DepP, lQ]
   intro VV K hK
   go_simp
   exact hK
  iterate 3
   refine FlowT.val (by decide) _ (fun _ _ => Iff.rfl) ?_ ?_
   ·simp only [DepP, lQ]
    repeat rintro _ ⟨_, rfl⟩
    intro VV K hK
    go_simp
    exact hK
  refine FlowT.mem (by decide) ?_ ?_
  ·intro VV hV
   simp only [Dep, lQ]
   rintro x25 ⟨V25, rfl, hb25⟩
   intro K hK
   obtain cM := (HR3.out.next hV).cell 24 _ rfl
   obtain hbs := at_next (below_next HV3.out hV) HS0.out
   obtain cS := Lib.cell_of_heap hbs 17
   simp at cS
   go_simp
   refine hK _ _ ?_ (Below.refl _ _)
   simp only [lR]
   exact rfl
  refine FlowT.val (by decide) _ (fun _ _ => Iff.rfl) ?_ ?_
  ·simp only [DepP, lQ]
   intro VV K hK
   go_simp
   exact hK
  refine FlowT.mem (by decide) ?_ ?_
  ·intro VV hV
   simp only [Dep, lQ]
   rintro x27 ⟨V27, rfl, hb27⟩
   intro K hK
   obtain cM := (HR3.out.next hV).cell 24 _ rfl
   obtain hbs := at_next (below_next HV3.out hV) HS0.out
   obtain cS := Lib.cell_of_heap hbs 17
   simp at cS
   go_simp
   refine hK _ _ ?_ (Below.refl _ _)
   simp only [lR]
   exact rfl
  refine FlowT.val (by decide) _ (fun _ _ => Iff.rfl) ?_ ?_
  ·simp only [DepP, lQ]
   intro VV K hK
   go_simp
   exact hK
  refine FlowT.mem (by decide) ?_ ?_
  ·intro VV hV
   simp only [Dep, lQ]
   rintro x29 ⟨V29, rfl, hb29⟩
   intro K hK
   obtain cM := (HR3.out.next hV).cell 24 _ rfl
   obtain hbs := at_next (below_next HV3.out hV) HS0.out
   obtain cS := Lib.cell_of_heap hbs 17
   simp at cS
   go_simp
   refine hK _ _ ?_ (Below.refl _ _)
   simp only [lR]
   exact rfl
  iterate 3
   refine FlowT.val (by decide) _ (fun _ _ => Iff.rfl) ?_ ?_
   ·simp only [DepP, lQ]
    repeat rintro _ ⟨_, rfl⟩
    intro VV K hK
    go_simp
    exact hK
  refine FlowT.store (by decide) rfl ?_
  iterate 2
   refine FlowT.val (by decide) _ (fun _ _ => Iff.rfl) ?_ ?_
   ·simp only [DepP, lQ]
    repeat rintro _ ⟨_, rfl⟩
    intro VV K hK
    go_simp
    exact hK
  refine FlowT.store (by decide) rfl ?_
  exact FlowT.nil
 ·intro VV hV
  simp only [Dep, lQ]
  rintro x22 ⟨V22, rfl, hb22⟩
  rintro x23 ⟨V23, rfl, hb23⟩
  rintro x24 ⟨V24, rfl, hb24⟩
  rintro x25 ⟨V25, rfl, hb25⟩
  rintro x26 ⟨V26, rfl, hb26⟩
  rintro x27 ⟨V27, rfl, hb27⟩
  rintro x28 ⟨V28, rfl, hb28⟩
  rintro x29 ⟨V29, rfl, hb29⟩
  rintro x30 ⟨V30, rfl, hb30⟩
  rintro x31 ⟨V31, rfl, hb31⟩
  rintro x32 ⟨V32, rfl, hb32⟩
  rintro x33 ⟨V33, rfl, hb33⟩
  rintro x35 ⟨V35, rfl, hb35⟩
  rintro x36 ⟨V36, rfl, hb36⟩
  intro K1 hK1
  have HLV := Lib.hid ((HL0.out.next HV3.out).next hV)
  have HRV := Lib.hid (HR3.out.next hV)
  have HVV := Lib.hid (below_next HV3.out hV)
  refine (if_pos (by rfl)).mpr ?_
  refine wp_app _ _ 33 22 (.int .u16 0) 1 2 rfl Tryz.underlying33 info22 rfl (by decide) W0.heap.size (.slice none 0 0) 0 [] rfl (World.ownsRow_nil _ _ _ _) ps l.length cs (l.map (Value.int .u16)) rfl (by simp) HLV.out.st (fun u hu => by obtain ⟨x, _, rfl⟩ := List.mem_map.1 hu; rfl) (by have := HLV.out.len; unfold maxLen; omega) (by have := HLV.out.len; omega) HVV.out.size ?_
  intro v' w' hown hg hzz
  have hbw := below_grown (Below.refl VV.heap.size VV) (Nat.le_refl _) hg (fun q e => by cases e)
  rw [Nat.zero_add, List.nil_append] at hown
  obtain ⟨p3, c3, rfl⟩ := own_slice2 hown
  have HZ3 := Lib.hid (fun e : l.length = 0 => hzz e rfl)
  have HO3 := Lib.hid hown
  have HRW := Lib.hid (HRV.out.next hbw)
  have HVW := Lib.hid (below_next HVV.out hbw)
  refine hK1 _ _ ?_
  simp only [lQ]
  clear hK1 K1 hown hg hbw hV hzz
  have y0 := HRW.out.cell 24 _ rfl
  have z0 := HRW.out.frz 24
  intro K1 hK1
  go_simp
  refine hK1 undef _ ?_
  clear hK1 K1 y0 z0
  unfold TailS
  generalize e4 : World.setCell _ _ _ = V4
  have HR4 : Hid (RefAt W0.heap.size E B g { mkM m with ram := fun j => byteI S j, st := l } (.slice p3 l.length c3) (.slice none 0 0) 0 0 V4) := Lib.hid (HRW.out.put 24 _ e4 rfl rfl HO3.out HRW.out.out)
  have HV4 := Lib.hid (sc_bel HVW.out HRW.out.low.1 e4)
  clear e4 HRW HVW HO3 HLV HRV HVV
  go_upto_region 4 with (fail)
  refine' wp_region_flowT [4, 6] [7, 10] [[], [], [(38, 1)], [(39, 2)], [(40, 3)], [], [(42, 5)], [(41, 4), (43, 6)], [(37, 0)], [(45, 8)], [(46, 9), (44, 7)]] [(37, 0), (38, 1), (39, 2), (40, 3), (41, 4), (42, 5), (43, 6), (45, 8), (46, 9)] (relL [eqV _, eqV _, eqV _, eqV _, eqV _, eqV _, eqV _, eqV undef, eqV _, eqV _, eqV undef]) [(7, _), (10, _)] (by kernel_rfl) (by kernel_rfl) rfl ?_ ?_
  rotate_left 9
  ·refine FlowT.val (by decide) _ (fun _ _ => Iff.rfl) ?_ ?_
   ·simp only [DepP, lQ]
    intro VV K hK
    go_simp
    exact hK
   iterate 3
    refine FlowT.val (by decide) _ (fun _ _ => Iff.rfl) ?_ ?_
    ·simp only [DepP, lQ]
     repeat rintro _ ⟨_, rfl⟩
     intro VV K hK
     go_simp
     exact hK
   refine FlowT.mem (by decide) ?_ ?_
   ·intro VV hV
    simp only [Dep, lQ]
    rintro x40 ⟨V40, rfl, hb40⟩
    intro K hK
    obtain cM := (HR4.out.next hV).cell 25 _ rfl
    obtain hbs := at_next (below_next HV4.out hV) HS0.out
    obtain cS := Lib.cell_of_heap hbs 18
    simp at cS
    go_simp
    refine hK _ _ ?_ (Below.refl _ _)
    simp only [lR]
    exact rfl
   refine FlowT.val (by decide) _ (fun _ _ => Iff.rfl) ?_ ?_
   ·simp only [DepP, lQ]
    intro VV K hK
    go_simp
    exact hK
   refine FlowT.mem (by decide) ?_ ?_
   ·intro VV hV
    simp only [Dep, lQ]
    rintro x42 ⟨V42, rfl, hb42⟩
    intro K hK
    obtain cM := (HR4.out.next hV).cell 25 _ rfl
    obtain hbs := at_next (below_next HV4.out hV) HS0.out
    obtain cS := Lib.cell_of_heap hbs 18
    simp at cS
    go_simp
    refine hK _ _ ?_ (Below.refl _ _)
    simp only [lR]
    exact rfl
   refine FlowT.store (by decide) rfl ?_
   iterate 2
    refine FlowT.val (by decide) _ (fun _ _ => Iff.rfl) ?_ ?_
    ·simp only [DepP, lQ]
     repeat rintro _ ⟨_, rfl⟩
     intro VV K hK
     go_simp
     exact hK
   refine FlowT.store (by decide) rfl ?_
   exact FlowT.nil
  ·intro VV hV
   simp only [Dep, lQ]
   rintro x37 ⟨V37, rfl, hb37⟩
   rintro x38 ⟨V38, rfl, hb38⟩
   rintro x39 ⟨V39, rfl, hb39⟩
   rintro x40 ⟨V40, rfl, hb40⟩
   rintro x41 ⟨V41, rfl, hb41⟩
   rintro x42 ⟨V42, rfl, hb42⟩
   rintro x43 ⟨V43, rfl, hb43⟩
   rintro x45 ⟨V45, rfl, hb45⟩
   rintro x46 ⟨V46, rfl, hb46⟩
   intro K1 hK1
   have HLV := Lib.hid ((HL0.out.next HV4.out).next hV)
   have HRV := Lib.hid (HR4.out.next hV)
   have HVV := Lib.hid (below_next HV4.out hV)
   refine (if_pos (by rfl)).mpr ?_
   refine wp_app _ _ 34 51 (.agg #[.int .u16 0, .int .u16 0]) 2 4 rfl Tryz.underlying34 info54 rfl (by decide) W0.heap.size (.slice none 0 0) 0 [] rfl (World.ownsRow_nil _ _ _ _) po m.out.length co (outC m.out) rfl (outC_length _) HLV.out.out (outC_one _) (by have := HLV.out.olen; unfold maxLen; omega) (by have := HLV.out.olen; omega) HVV.out.size ?_
   intro v' w' hown hg hzz
   have hbw := below_grown (Below.refl VV.heap.size VV) (Nat.le_refl _) hg (fun q e => by cases e)
   rw [Nat.zero_add, List.nil_append] at hown
   obtain ⟨p4, c4, rfl⟩ := own_slice2 hown
   have HZ4 := Lib.hid (fun e : m.out.length = 0 => hzz e rfl)
   have HO4 := Lib.hid hown
   have HRW := Lib.hid (HRV.out.next hbw)
   have HVW := Lib.hid (below_next HVV.out hbw)
   refine hK1 _ _ ?_
   simp only [lQ]
   clear hK1 K1 hown hg hbw hV hzz
   have y0 := HRW.out.cell 25 _ rfl
   have z0 := HRW.out.frz 25
   intro K1 hK1
   go_simp
   refine hK1 undef _ ?_
   clear hK1 K1 y0 z0
   unfold TailS
   generalize e5 : World.setCell _ _ _ = V5
   have HR5 : Hid (RefAt W0.heap.size E B g { m with ram := fun j => byteI S j, st := l } (.slice p3 l.length c3) (.slice p4 m.out.length c4) 0 0 V5) := Lib.hid (HRW.out.put 25 _ e5 rfl rfl HRW.out.st HO4.out)
   have HV5 := Lib.hid (sc_bel HVW.out HRW.out.low.1 e5)
   clear e5 HRW HVW HO4 HLV HRV HVV
   have c24 : V5.cell? ⟨B, 24, none⟩ = some (.slice p3 l.length c3) := HR5.out.cell 24 _ rfl
   have y0 : V5.cell? ⟨B, 16, none⟩ = some (.int .u16 m.sp) := HR5.out.cell 16 _ rfl
   have z0 := HR5.out.frz 16
   have x1 : IntKind.u16.wrap (l.length : Int) = (l.length : Int) := by rw [IntKind.wrap_u16]; have := H.out.len; omega
   go_upto_region 6 with (fail)
   generalize e6 : World.setCell _ _ _ = V6
   have hme : ({ m with ram := fun j => byteI S j, st := l, sp := (l.length : Int) } : Mach) = normM m S l := by
    unfold normM
    rw [List.take_of_length_le H.out.len, Nat.min_eq_left H.out.len]
   have HR6 : Hid (RefAt W0.heap.size E B g (normM m S l) (.slice p3 l.length c3) (.slice p4 m.out.length c4) 0 0 V6) := Lib.hid (by
    rw [← hme]
    exact HR5.out.put 16 _ e6 rfl rfl HR5.out.st HR5.out.out)
   have HV6 := Lib.hid (sc_bel HV5.out HR5.out.low.1 e6)
   clear e6 c24 y0 z0 x1 hme
   go_wp2_with fail
   exact bodyPost_ret (v := .pointer (some ⟨B, 0, none⟩)) (by simp [results, Tryz.results17, go_sem]) rfl ⟨B, g, _, _, rfl, below_next HB0.out HV6.out, HR6.out.low' HB0.out.size, HZ3.out, HZ4.out⟩
theorem own_new0 {W W9 : World} {e size : Nat} (h : W.heap.size ≤ W9.heap.size) : (W9.alloc (.cells #[] e)).ownsRow W.heap.size e size (.slice (some ⟨W9.heap.size, 0, none⟩) 0 0) 0 [] :=
 ⟨by simp, .inr ⟨W9.heap.size, 0, _, rfl, h, alloc_at W9 _, Nat.le_refl _, by decide, by simp, by simp⟩⟩
/-- A state given out, and what lies below it as it was. -/
def RSnapPost (base : Nat) (V : World) (m : Mach) (e : Ending) (w' : World) : Prop :=
 ∃ C : Array Value, e = .returned (.agg C) ∧ Snapped V m (ramS m.ram) (.agg C) w' ∧ V.heap.size ≤ w'.heap.size ∧ ∀ W : World, W.heap.size ≤ base → Below W.heap.size W V → Below W.heap.size W w'
set_option maxRecDepth 20000 in
set_option maxHeartbeats 8000000 in
theorem snap_ref {base : Nat} {E : Env} {B g : Nat} {m : Mach} {sv ov : Value} {tk ti : Int} {V : World} (h : RefAt base E B g m sv ov tk ti V) (hram : ∀ j, 0 ≤ m.ram j ∧ m.ram j < 256) (hl : m.st.length ≤ 4096) (ho : m.out.length ≤ 1000000000000) :
  Calls Tryz.prog 19 #[.pointer (some ⟨B, 0, none⟩)] V (RSnapPost base V { m with sp := (m.st.length : Int) }) := by
 obtain ⟨p3, c3, rfl⟩ := own_slice2 h.st
 obtain ⟨p4, c4, rfl⟩ := own_slice2 h.out
 have H := Lib.hid h
 have HL := Lib.hid hl
 have HF : Hid ((∀ j, 0 ≤ m.ram j ∧ m.ram j < 256) ∧ m.out.length ≤ 1000000000000) := Lib.hid ⟨hram, ho⟩
 have HBV : Hid (B < V.heap.size) := Lib.hid (at_lt h.blk)
 obtain ⟨m1, hm1⟩ : ∃ m1, { m with sp := (m.st.length : Int) } = m1 := ⟨_, rfl⟩
 rw [hm1]
 have HM1 := Lib.hid hm1
 clear h hram hl ho hm1
 go_enter Tryz.func19, Tryz.ntmps19
 go_upto_region 1 with (fail)
 generalize e0 : V.alloc _ = W0
 have HZ0 := Lib.hid (al_blk e0)
 have HB0 := Lib.hid (al_bel e0)
 have HR0 := Lib.hid (H.out.next (al_bel e0))
 clear e0
 have c24 : W0.cell? ⟨B, 24, none⟩ = some (.slice p3 m.st.length c3) := HR0.out.cell 24 _ rfl
 have y0 : W0.cell? ⟨B, 16, none⟩ = some (.int .u16 m.sp) := HR0.out.cell 16 _ rfl
 have z0 := HR0.out.frz 16
 have x1 : IntKind.u16.wrap (m.st.length : Int) = (m.st.length : Int) := by rw [IntKind.wrap_u16]; have := HL.out; omega
 go_upto_region 2 with (fail)
 generalize e1 : World.setCell _ _ _ = W1
 have HR1 : Hid (RefAt base E B g { m with sp := (m.st.length : Int) } (.slice p3 m.st.length c3) (.slice p4 m.out.length c4) tk ti W1) := Lib.hid (HR0.out.put 16 _ e1 rfl rfl HR0.out.st HR0.out.out)
 have HZ1 := Lib.hid (sc_oth (by have := HBV.out; omega) HZ0.out e1)
 have HLOW : Hid (∀ W : World, W.heap.size ≤ base → Below W.heap.size W V → Below W.heap.size W W1) := Lib.hid fun W hW hb => sc_bel (below_next hb HB0.out) (Nat.le_trans hW H.out.low.1) e1
 have HVW : Hid (V.heap.size ≤ W1.heap.size) := Lib.hid (by
  have h1 := HB0.out.size
  rw [← e1]
  simpa using h1)
 have HBW : Hid (base ≤ W1.heap.size) := Lib.hid (by have := HVW.out; have := HBV.out; have := H.out.low.1; omega)
 clear e1 c24 y0 z0 x1 HR0 HZ0 HB0 H
 have hm1 := HM1.out
 have HF1 : Hid ((∀ j, 0 ≤ m1.ram j ∧ m1.ram j < 256) ∧ m1.out.length ≤ 1000000000000) := Lib.hid (hm1 ▸ HF.out)
 have HL1 : Hid (m1.st.length ≤ 4096) := Lib.hid (hm1 ▸ HL.out)
 have HR2 : Hid (RefAt base E B g m1 (.slice p3 m1.st.length c3) (.slice p4 m1.out.length c4) tk ti W1) := Lib.hid (hm1 ▸ HR1.out)
 clear HF HL HR1 hm1 HM1
 have HCV : Hid (∀ W, Below W1.heap.size W1 W → (convert 42 9 (.slice (some ⟨g, 0, none⟩) 8192 8192)).run Tryz.prog W = .ok (.string (ramS m1.ram)) W) := Lib.hid fun W hW => by
  obtain ⟨cur, r1, r2, r3⟩ := (HR2.out.next hW).ram
  exact ram_conv 8192 m1.ram g W fun j hj => ⟨by rw [Lib.cell_of_heap r1 j]; exact r3 j hj, HF1.out.1 j⟩
 refine' wp_region_flowR [[], [(13, 0)], [(14, 1)], [(15, 2)], [], [(17, 4)], [(18, 5)], [(19, 6)], [(20, 7)], [], [], [(23, 10)], [(24, 11)], [(25, 12)], [(22, 9), (26, 13)], [], [], [(29, 16)], [(30, 17)], [(31, 18)], [(28, 15), (32, 19)], [(16, 3), (21, 8), (27, 14), (33, 20)], [(13, 0), (14, 1), (15, 2), (16, 3), (17, 4), (18, 5), (19, 6), (20, 7), (21, 8), (22, 9), (23, 10), (24, 11), (25, 12), (26, 13), (27, 14), (28, 15), (29, 16), (30, 17), (31, 18), (32, 19), (33, 20), (34, 21)]] (relL [eqV _, eqV _, eqV _, eqV _, eqV _, eqV _, eqV _, eqV _, eqV _, slTo (.cells #[] 22) 0 W1, eqV _, eqV _, eqV _, eqV _, WordsTo W1 m1, slTo (.cells #[] 51) 0 W1, eqV _, eqV _, eqV _, eqV _, EventsTo W1 m1, Snapped W1 m1 (ramS m1.ram)]) (by kernel_rfl) (by kernel_rfl) ?_
 rotate_left 17
 iterate 9
  refine FlowR.step ?_ ?_
  ·intro VV hV
   simp only [Dep, lQ]
   repeat rintro _ ⟨_, rfl, _⟩
   intro K hK
   obtain cc7 := (HR2.out.next hV).cell 7 _ rfl
   obtain cc8 := (HR2.out.next hV).cell 8 _ rfl
   obtain cc9 := (HR2.out.next hV).cell 9 _ rfl
   obtain cc10 := (HR2.out.next hV).cell 10 _ rfl
   obtain cc11 := (HR2.out.next hV).cell 11 _ rfl
   obtain cc12 := (HR2.out.next hV).cell 12 _ rfl
   obtain cc13 := (HR2.out.next hV).cell 13 _ rfl
   obtain cc14 := (HR2.out.next hV).cell 14 _ rfl
   obtain cc15 := (HR2.out.next hV).cell 15 _ rfl
   obtain cc16 := (HR2.out.next hV).cell 16 _ rfl
   obtain cc17 := (HR2.out.next hV).cell 17 _ rfl
   obtain cc18 := (HR2.out.next hV).cell 18 _ rfl
   obtain cc19 := (HR2.out.next hV).cell 19 _ rfl
   obtain cc20 := (HR2.out.next hV).cell 20 _ rfl
   obtain cc21 := (HR2.out.next hV).cell 21 _ rfl
   obtain cc22 := (HR2.out.next hV).cell 22 _ rfl
   obtain cc23 := (HR2.out.next hV).cell 23 _ rfl
   obtain hcv := HCV.out _ hV
   go_simp
   refine hK _ _ ?_ (Below.refl _ _)
   simp only [lR]
   exact rfl
 refine FlowR.step ?_ ?_
 ·intro VV hV
  simp only [Dep, lQ]
  intro K hK
  go_simp
  exact hK _ _ ⟨VV, rfl, rfl, hV⟩ (below1 _ _)
 iterate 4
  refine FlowR.step ?_ ?_
  ·intro VV hV
   simp only [Dep, lQ]
   repeat rintro _ ⟨_, rfl, _⟩
   intro K hK
   obtain cc24 := (HR2.out.next hV).cell 24 _ rfl
   go_simp
   refine hK _ _ ?_ (Below.refl _ _)
   simp only [lR]
   exact rfl
 refine FlowR.step ?_ ?_
 ·intro VV hV
  simp only [Dep, lQ]
  rintro x22 ⟨V22, ⟨W9, rfl, rfl, hb9⟩, hb22⟩
  rintro x26 ⟨V26, rfl, hb26⟩
  intro K hK
  refine (if_pos (by rfl)).mpr ?_
  refine wp_app0 _ _ 33 22 (.int .u16 0) 1 2 rfl Tryz.underlying33 info22 rfl (by decide) W1.heap.size W9.heap.size rfl (own_next (own_new0 hb9.size) hb22) p3 m1.st.length c3 (m1.st.map (Value.int .u16)) rfl (by simp) (own_rowSrc (HR2.out.next hV).st (by decide)) (fun u hu => by obtain ⟨x, _, rfl⟩ := List.mem_map.1 hu; rfl) (by have := HL1.out; unfold maxLen; omega) (by have := HL1.out; omega) hV.size ?_
  intro v' w' ho hb
  exact hK _ _ ho hb
 refine FlowR.step ?_ ?_
 ·intro VV hV
  simp only [Dep, lQ]
  intro K hK
  go_simp
  exact hK _ _ ⟨VV, rfl, rfl, hV⟩ (below1 _ _)
 iterate 4
  refine FlowR.step ?_ ?_
  ·intro VV hV
   simp only [Dep, lQ]
   repeat rintro _ ⟨_, rfl, _⟩
   intro K hK
   obtain cc25 := (HR2.out.next hV).cell 25 _ rfl
   go_simp
   refine hK _ _ ?_ (Below.refl _ _)
   simp only [lR]
   exact rfl
 refine FlowR.step ?_ ?_
 ·intro VV hV
  simp only [Dep, lQ]
  rintro x28 ⟨V28, ⟨W8, rfl, rfl, hb8⟩, hb28⟩
  rintro x32 ⟨V32, rfl, hb32⟩
  intro K hK
  refine (if_pos (by rfl)).mpr ?_
  refine wp_app0 _ _ 34 51 (.agg #[.int .u16 0, .int .u16 0]) 2 4 rfl Tryz.underlying34 info54 rfl (by decide) W1.heap.size W8.heap.size rfl (own_next (own_new0 hb8.size) hb28) p4 m1.out.length c4 (outC m1.out) rfl (outC_length _) (own_rowSrc (HR2.out.next hV).out (by decide)) (outC_one _) (by have := HF1.out.2; unfold maxLen; omega) (by have := HF1.out.2; omega) hV.size ?_
  intro v' w' ho hb
  exact hK _ _ ho hb
 refine FlowR.step ?_ ?_
 ·intro VV hV
  simp only [Dep, lQ]
  rintro x16 ⟨V16, rfl, hb16⟩
  rintro x21 ⟨V21, rfl, hb21⟩
  rintro x27 ⟨V27, ho27, hb27⟩
  rintro x33 ⟨V33, ho33, hb33⟩
  intro K hK
  obtain ⟨pa, ca, rfl⟩ := own_slice2 ho27
  obtain ⟨pb, cb, rfl⟩ := own_slice2 ho33
  go_simp
  exact hK _ _ ⟨pa, ca, pb, cb, rfl, own_next ho27 hb27, own_next ho33 hb33⟩ (Below.refl _ _)
 refine FlowR.last ?_
 intro VV hV
 simp only [Dep, lQ]
 rintro x13 ⟨V13, rfl, hb13⟩
 rintro x14 ⟨V14, rfl, hb14⟩
 rintro x15 ⟨V15, rfl, hb15⟩
 rintro x16 ⟨V16, rfl, hb16⟩
 rintro x17 ⟨V17, rfl, hb17⟩
 rintro x18 ⟨V18, rfl, hb18⟩
 rintro x19 ⟨V19, rfl, hb19⟩
 rintro x20 ⟨V20, rfl, hb20⟩
 rintro x21 ⟨V21, rfl, hb21⟩
 rintro x22 ⟨V22, ⟨W9, rfl, rfl, hb9⟩, hb22⟩
 rintro x23 ⟨V23, rfl, hb23⟩
 rintro x24 ⟨V24, rfl, hb24⟩
 rintro x25 ⟨V25, rfl, hb25⟩
 rintro x26 ⟨V26, rfl, hb26⟩
 rintro x27 ⟨V27, ho27, hb27⟩
 rintro x28 ⟨V28, ⟨W8, rfl, rfl, hb8⟩, hb28⟩
 rintro x29 ⟨V29, rfl, hb29⟩
 rintro x30 ⟨V30, rfl, hb30⟩
 rintro x31 ⟨V31, rfl, hb31⟩
 rintro x32 ⟨V32, rfl, hb32⟩
 rintro x33 ⟨V33, ho33, hb33⟩
 rintro x34 ⟨V34, ⟨pa, ca, pb, cb, rfl, hsn⟩, hb34⟩
 intro K hK
 refine (if_pos (by rfl)).mpr ?_
 have hz := at_next hV HZ1.out
 have hs9 := hsn.next hb34
 refine wp_store_row 36 _ _ rfl V.heap.size rfl (snC m1 (ramS m1.ram) (.slice pa m1.st.length ca) (.slice pb m1.out.length cb)) rfl hz info43 rfl (snC_one _ _ _ _ _ _ _ _) ?_
 refine hK _ _ ?_
 simp only [Act.put]
 generalize eA : World.setRow _ _ _ = WA
 have HY := Lib.hid (sr_blk hz eA)
 have HS := Lib.hid (sr_snap hs9 (by decide) hz eA)
 have HLW : Hid (∀ W : World, W.heap.size ≤ base → Below W.heap.size W V → Below W.heap.size W WA) := Lib.hid fun W hW hb => sr_bel (below_next (HLOW.out W hW hb) hV) hb.size eA
 have HSZ : Hid (V.heap.size ≤ WA.heap.size) := Lib.hid (by
  have h1 := Nat.le_trans HVW.out hV.size
  rw [← eA]
  simpa [World.setRow] using h1)
 clear eA hz hs9 hsn hV hK
 go_wp2_with fail
 exact bodyPost_ret (v := .agg (snC m1 (ramS m1.ram) (.slice pa m1.st.length ca) (.slice pb m1.out.length cb))) (row_result rfl _ _ V.heap.size _ 36 rfl HY.out Tryz.underlying36 info43) rfl ⟨_, rfl, Snapped.low ⟨pa, ca, pb, cb, rfl, HS.out⟩ HVW.out, HSZ.out, HLW.out⟩
/-- The words of a state. -/
theorem neq39 (m : Mach) (W : World) : (binOp .neq 32 (.agg (stC m)) (.agg (stC m))).run Tryz.prog W = .ok (.bool false) W := by
 obtain ⟨i, hi⟩ : ∃ i, Tryz.prog.info? 22 = some i := by
  have := info22
  cases h : Tryz.prog.info? 22 with
  | none => rw [h] at this; cases this
  | some i => exact ⟨i, rfl⟩
 have h37 : ∀ d xs ys, (Op.equalIn (d + 1) 30 (.agg xs) (.agg ys)).run Tryz.prog W = (Op.eqItems d 22 1 xs ys [0, 1, 2, 3, 4, 5, 6, 7]).run Tryz.prog W := fun d xs ys => by
  rw [run_equalIn_array W d _ _ Tryz.underlying30 hi, show Tryz.prog.cellsOf 22 = 1 by kernel_rfl, show List.range 8 = [0, 1, 2, 3, 4, 5, 6, 7] from rfl]
 rw [run_neq_struct, run_equalIn_agg W 9999 32 _ _ fields39 stood39]
 have hf : (Tryz.prog.fieldsOf 32).toList = (match Tryz.prog.underlying 32 with | some (.struct f) => f.toList | _ => []) := by kernel_rfl
 rw [hf, Tryz.underlying32]
 unfold stC
 simp [Op.eqFields, go_sem, h37, Op.eqItems]
theorem snap_low {W0 W1 w : World} {m : Mach} {vs vo : Value} (h : SnapIn W1 w m vs vo) (hl : W0.heap.size ≤ W1.heap.size) : SnapIn W0 w m vs vo := ⟨own_low h.st hl, own_low h.out hl⟩
/-- What a normal machine is like, for snap. -/
structure NormalIn (X : Mach) (n : Nat) (oo : List (Int × Int)) : Prop where
 ram : ∀ j, 0 ≤ X.ram j ∧ X.ram j < 256
 len : X.st.length ≤ 4096
 lenE : X.st.length = n
 out : X.out = oo
 olen : X.out.length ≤ 1000000000000
theorem normalIn {w : World} {m : Mach} {S : ByteArray} {l : List Int} {ps po : Option Addr} {cs co : Nat} (h : LoadIn w m S l ps po cs co) : NormalIn (normM m S l) l.length m.out :=
 ⟨fun j => byteI_bd S j, by unfold normM; rw [List.length_take]; omega, by unfold normM; rw [List.length_take]; have := h.len; omega, rfl, h.olen⟩
end Go.Proofs.YtieaicdihingkaaGreat
