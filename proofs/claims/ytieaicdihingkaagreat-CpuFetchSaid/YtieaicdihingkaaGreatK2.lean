/- The machine's small methods: raise, slot, pop. -/
import Derived.Test.YtieaicdihingkaaGreatK0
namespace Go.Proofs.YtieaicdihingkaaGreat
set_option linter.unusedVariables false
set_option linter.unusedSimpArgs false
open Go.RowKit
abbrev trapV (k i : Int) : Value := .iface 65 (.agg #[.int .i64 k, .int .u16 i])
abbrev trapE (k i : Int) : Ending := .panicked [{ v := trapV k i, recovered := false }]
theorem panics {fn : Func} {R : Ending → World → Prop} {a : Act} {w : World} {l : List PanicEntry} (hd : a.defers = []) (h : R (.panicked l) w) : bodyPost Tryz.prog fn R (.panic l) a w := ⟨hd, h⟩
theorem raise_any (k i : Int) (w : World) : Calls Tryz.prog 34 #[.int .i64 k, .int .u16 i] w fun e w' => e = .panicked [{ v := .iface 65 (.agg #[.int .i64 k, .int .u16 i]), recovered := false }] ∧ w = w' := by
 go_enter Tryz.func34, Tryz.ntmps34
 go_wp2
 exact panics rfl ⟨rfl, rfl⟩
theorem own_slice {w : World} {base e n : Nat} {v : Value} {xs : List Value} (h : w.ownsRow base e 1 v n xs) : ∃ (p : Option Addr) (c : Nat), v = .slice p n c ∧ n ≤ c ∧ (n = 0 ∨ ∃ g, p = some ⟨g, 0, none⟩ ∧ g < w.heap.size ∧ base ≤ g ∧ ∀ j u, xs[j]? = some u → w.cell? ⟨g, j, none⟩ = some u ∧ w.frozen? ⟨g, j, none⟩ = false) := by
 rcases h.2 with ⟨rfl, rfl⟩ | ⟨g, cap, cur, rfl, hb, hg, hnc, _, hcs, htake⟩
 ·exact ⟨none, 0, rfl, Nat.le_refl _, .inl rfl⟩
 ·refine ⟨_, _, rfl, hnc, .inr ⟨g, rfl, (Array.getElem?_eq_some_iff.1 hg).1, hb, fun j u hu => ⟨?_, ?_⟩⟩⟩
  ·rw [Lib.cell_of_heap hg j]
   rw [← htake, List.getElem?_take] at hu
   split at hu
   ·simpa using hu
   ·cases hu
  ·unfold World.frozen?; rw [hg]; simp
theorem slot_ok {E : Env} {V : World} {m : Mach} {sv ov : Value} (h : MachAt E V m sv ov) (n : Nat) (hn : n < m.st.length) :
  Calls Tryz.prog 74 #[.pointer (some ⟨E.B, 0, none⟩), .int .i64 (n : Int)] V fun e w' => (∃ g c, sv = .slice (some ⟨g, 0, none⟩) m.st.length c ∧ e = .returned (.pointer (some ⟨g, n, none⟩))) ∧ V = w' := by
 obtain ⟨p, c, rfl, hc, hp⟩ := own_slice h.st
 have hl := h.ok.len
 have c24 := h.cell 24 _ rfl
 have d0 : decide ((n : Int) < 0) = false := decide_eq_false (by omega)
 have d1 : decide ((m.st.length : Int) ≤ (n : Int)) = false := decide_eq_false (by omega)
 have d2 : (n : Int) < (m.st.length : Int) := by omega
 have d3 : (0 : Int) ≤ (n : Int) := by omega
 rcases hp with hp | ⟨g, rfl, _⟩
 ·omega
 ·clear h hc hn
  go_enter Tryz.func74, Tryz.ntmps74
  go_wp2
  go_ret
  exact ⟨⟨g, c, rfl, by simp⟩, rfl⟩
theorem slot_bad {E : Env} {V : World} {m : Mach} {sv ov : Value} (h : MachAt E V m sv ov) (n : Int) (hn : n < 0 ∨ (m.st.length : Int) ≤ n) :
  Calls Tryz.prog 74 #[.pointer (some ⟨E.B, 0, none⟩), .int .i64 n] V fun e w' => e = trapE 5 0 ∧ V = w' := by
 obtain ⟨p, c, rfl, hc, hp⟩ := own_slice h.st
 have c24 := h.cell 24 _ rfl
 clear hp hc h
 by_cases h0 : n < 0
 ·have d0 : decide (n < 0) = true := decide_eq_true h0
  clear hn h0
  go_enter Tryz.func74, Tryz.ntmps74
  go_wp2_with (go_at_call 34; refine (raise_any _ _ _).mono ?_; rintro e w' ⟨rfl, rfl⟩)
  exact panics rfl ⟨rfl, rfl⟩
 ·have d0 : decide (n < 0) = false := decide_eq_false h0
  have d1 : decide ((m.st.length : Int) ≤ n) = true := decide_eq_true (by omega)
  clear hn h0
  go_enter Tryz.func74, Tryz.ntmps74
  go_wp2_with (go_at_call 34; refine (raise_any _ _ _).mono ?_; rintro e w' ⟨rfl, rfl⟩)
  exact panics rfl ⟨rfl, rfl⟩
/-- Rows of the stack's kind stay as they were, if they are no longer than n. -/
def Saves (E : Env) (V V' : World) (n : Nat) : Prop := ∀ s0 n0 xs0, n0 ≤ n → V.ownsRow E.base 22 1 s0 n0 xs0 → V'.ownsRow E.base 22 1 s0 n0 xs0
theorem Saves.trans {E : Env} {V V' V'' : World} {n k : Nat} (h : Saves E V V' n) (h' : Saves E V' V'' k) (hn : n ≤ k) : Saves E V V'' n := fun s0 n0 xs0 h0 h1 => h' s0 n0 xs0 (Nat.le_trans h0 hn) (h s0 n0 xs0 h0 h1)
theorem Saves.set {E : Env} {V : World} {m : Mach} {sv ov : Value} (h : MachAt E V m sv ov) (k : Nat) (v : Value) (n : Nat) : Saves E V (V.setCell ⟨E.B, k, none⟩ v) n := fun s0 n0 xs0 _ h1 => own_set' h1 h.blk (by decide)
theorem Saves.of_below {E : Env} {V V' : World} (h : Below V.heap.size V V') (n : Nat) : Saves E V V' n := fun s0 n0 xs0 _ h1 => own_next h1 h
def PopPost (E : Env) (V : World) (m : Mach) (ov : Value) (e : Ending) (w' : World) : Prop :=
 (m.st = [] ∧ e = trapE 5 0 ∧ V = w') ∨ (∃ l x sv', m.st = l ++ [x] ∧ e = .returned (.int .u16 x) ∧ MachAt E w' { m with st := l } sv' ov ∧ w' = V.setCell ⟨E.B, 24, none⟩ sv')
theorem Mach.Ok.cut {m : Mach} {l : List Int} (h : m.Ok) (hs : ∀ y ∈ l, y ∈ m.st) (hl : l.length ≤ m.st.length) : Mach.Ok { m with st := l } := by
 obtain ⟨a1, a2, a3, a4, a5, a6, a7, a8, a9, a10, a11, a12, a13, a14⟩ := h
 exact ⟨a1, a2, a3, a4, a5, a6, a7, a8, a9, a10, fun y hy => a11 y (hs y hy), Nat.le_trans hl a12, a13, a14⟩
theorem own_cut {w : World} {base : Nat} {p : Option Addr} {c n : Nat} {xs ys : List Value} (h : w.ownsRow base 22 1 (.slice p n c) n (xs ++ ys)) (hp : p ≠ none) : w.ownsRow base 22 1 (.slice p xs.length c) xs.length xs := by
 have hl := h.1
 refine ⟨by simp, ?_⟩
 rcases h.2 with ⟨e, _⟩ | ⟨g, cap, cur, e, hb, hg, hnc, hcm, hcs, htake⟩
 ·injection e with e1; exact absurd e1 hp
 ·injection e with e1 e2 e3
  subst e1 e3
  refine .inr ⟨g, c, cur, rfl, hb, hg, ?_, hcm, hcs, ?_⟩
  ·simp at hl; omega
  ·have := congrArg (List.take xs.length) htake
   rw [List.take_take, List.take_left] at this
   rw [← this]
   congr 1
   simp at hl ⊢
   omega
set_option maxRecDepth 8000 in
set_option maxHeartbeats 4000000 in
theorem pop_any {E : Env} {V : World} {m : Mach} {sv ov : Value} (h : MachAt E V m sv ov) : Calls Tryz.prog 73 #[.pointer (some ⟨E.B, 0, none⟩)] V (PopPost E V m ov) := by
 obtain ⟨p, c, rfl, hc, hp⟩ := own_slice h.st
 have hl := h.ok.len
 have c24 := h.cell 24 _ rfl
 have z24 := h.frz 24
 have x1 : IntKind.i64.wrap ((m.st.length : Int) - 1) = (m.st.length : Int) - 1 := IntWalk.i64_in _ (by omega)
 rcases List.eq_nil_or_concat m.st with hn | ⟨l, x, hx⟩
 ·have HB := Lib.hid (slot_bad h ((m.st.length : Int) - 1) (by rw [hn]; simp))
  have HN := Lib.hid hn
  clear hp hc h hl hn
  go_enter Tryz.func73, Tryz.ntmps73
  go_wp2_with (go_at_call 74; refine HB.out.mono ?_; rintro e w' ⟨rfl, rfl⟩)
  exact panics rfl (.inl ⟨HN.out, rfl, rfl⟩)
 ·have hll : (l.length : Int) = (m.st.length : Int) - 1 := by rw [hx]; simp
  replace x1 : IntKind.i64.wrap ((m.st.length : Int) - 1) = (l.length : Int) := x1.trans hll.symm
  have H := Lib.hid h
  have hlt : l.length < m.st.length := by rw [hx]; simp
  have HX := Lib.hid hx
  rcases hp with hp | ⟨g, rfl, hg, hb, hcell⟩
  ·omega
  have HB : Hid (Calls Tryz.prog 74 #[.pointer (some ⟨E.B, 0, none⟩), .int .i64 (l.length : Int)] V fun e w' => e = .returned (.pointer (some ⟨g, l.length, none⟩)) ∧ V = w') := Lib.hid ((slot_ok h l.length hlt).mono fun e w' q => by
   obtain ⟨⟨g', c', e1, e2⟩, e3⟩ := q
   injection e1 with e1; injection e1 with e1; injection e1 with e1; subst e1
   exact ⟨e2, e3⟩)
  have cx := (hcell l.length (.int .u16 x) (by rw [hx]; simp)).1
  have HO := Lib.hid h.st
  have d3 : (0 : Int) ≤ (l.length : Int) := by omega
  have d4 : (l.length : Int) ≤ (c : Int) := by omega
  have d5 : (l.length : Int) < (m.st.length : Int) := by omega
  clear h hx hcell hc hll hlt hl
  go_enter Tryz.func73, Tryz.ntmps73
  go_wp2_with (go_at_call 74; refine HB.out.mono ?_; rintro e w' ⟨rfl, rfl⟩)
  go_ret
  have hx : m.st = l ++ [x] := by have := HX.out; simpa using this
  have hok := H.out.ok
  refine .inr ⟨l, x, .slice (some ⟨g, 0, none⟩) l.length c, hx, rfl, H.out.put 24 _ rfl rfl ?_ H.out.out ?_, rfl⟩
  ·have h1 := H.out.st
   rw [show m.st.map (Value.int .u16) = l.map (Value.int .u16) ++ [Value.int .u16 x] by rw [hx]; simp] at h1
   have h2 := own_cut h1 (by simp)
   rw [List.length_map] at h2
   exact h2
  ·exact hok.cut (by intro y hy; rw [hx]; simp [hy]) (by rw [hx]; simp)
end Go.Proofs.YtieaicdihingkaaGreat
namespace Go.Proofs.YtieaicdihingkaaGreat
set_option linter.unusedVariables false
set_option linter.unusedSimpArgs false
open Go.RowKit
def codeS (E : Env) (m : Mach) (a : Int) : ByteArray := codeI E.banks (if 4096 ≤ a then m.bank else 0) a 1
def codeM (E : Env) (m : Mach) (a : Int) : Option Int := if (codeS E m a).size = 0 then none else some (byteI (codeS E m a) 0)
theorem codeM_none {E : Env} {m : Mach} {a : Int} (h : (codeS E m a).size = 0) : codeM E m a = none := if_pos h
theorem codeM_some {E : Env} {m : Mach} {a : Int} (h : ¬ (codeS E m a).size = 0) : codeM E m a = some (byteI (codeS E m a) 0) := if_neg h
theorem codeI_size (banks : List ByteArray) (b a : Int) : (codeI banks b a 1).size ≤ 1 := by
 unfold codeI
 split
 ·rw [ByteArray.size_extract]; omega
 ·exact Nat.zero_le _
def CodePost (E : Env) (m : Mach) (a : Int) (V : World) (e : Ending) (w' : World) : Prop :=
 (match codeM E m a with | none => e = trapE 2 a | some c => e = .returned (.int .u8 c)) ∧ Below V.heap.size V w'
theorem codePost_none {E : Env} {m : Mach} {a : Int} {V w' : World} (h : codeM E m a = none) (hb : Below V.heap.size V w') : CodePost E m a V (trapE 2 a) w' := by unfold CodePost; rw [h]; exact ⟨rfl, hb⟩
theorem codePost_some {E : Env} {m : Mach} {a c : Int} {V w' : World} (h : codeM E m a = some c) (hb : Below V.heap.size V w') : CodePost E m a V (.returned (.int .u8 c)) w' := by unfold CodePost; rw [h]; exact ⟨rfl, hb⟩
theorem place_at {V W : World} {b a : Int} (h : Below (V.alloc (Obj.cells #[.int .i64 b, .int .u16 a] 96)).heap.size (V.alloc (Obj.cells #[.int .i64 b, .int .u16 a] 96)) W) : W.cell? ⟨V.heap.size, 0, none⟩ = some (.int .i64 b) ∧ W.cell? ⟨V.heap.size, 1, none⟩ = some (.int .u16 a) := by
 have h := (h.block V.heap.size (by simp)).trans (alloc_at V _)
 exact ⟨Lib.cell_of_heap h 0, Lib.cell_of_heap h 1⟩
set_option maxRecDepth 8000 in
set_option maxHeartbeats 4000000 in
theorem code_at {E : Env} {V : World} {m : Mach} {sv ov : Value} (h : MachAt E V m sv ov) (a : Int) (ha : OkU16 a) : Calls Tryz.prog 35 #[.pointer (some ⟨E.B, 0, none⟩), .int .u16 a] V (CodePost E m a V) := by
 have H := Lib.hid h
 have HA := Lib.hid ha
 by_cases h4 : 4096 ≤ a
 ·have d4 : decide (4096 ≤ a) = true := decide_eq_true h4
  have HS : Hid (codeS E m a = codeI E.banks (m.bank) a 1) := Lib.hid (by unfold codeS; rw [if_pos h4])
  have HB : Hid (OkI64 (m.bank)) := Lib.hid h.ok.bank
  have c19 : (V.alloc (Obj.cells #[.int .i64 0, .int .u16 a] 96)).cell? ⟨E.B, 19, none⟩ = some (.int .i64 m.bank) := (h.next (below1 V _)).cell 19 _ rfl
  have KC : Hid (∀ W, Below (V.alloc (Obj.cells #[.int .i64 (m.bank), .int .u16 a] 96)).heap.size (V.alloc (Obj.cells #[.int .i64 (m.bank), .int .u16 a] 96)) W → (W.cell? ⟨V.heap.size, 0, none⟩ = some (.int .i64 (m.bank)) ∧ W.cell? ⟨V.heap.size, 1, none⟩ = some (.int .u16 a)) ∧ (W.cell? ⟨E.B, 0, none⟩ = some (.slice E.pb E.banks.length E.cb) ∧ W.cell? ⟨E.B, 1, none⟩ = some (.int .u16 E.entry) ∧ W.cell? ⟨E.B, 2, none⟩ = some (.int .u16 E.vector) ∧ W.cell? ⟨E.B, 3, none⟩ = some (.slice E.pd E.nd E.cd) ∧ W.cell? ⟨E.B, 4, none⟩ = some (.slice E.pr E.nr E.cr)) ∧ StrsAt W E.pb E.banks ∧ Below V.heap.size V W) := Lib.hid fun W hW => by
   have hm := (h.next (below1 V _)).next hW
   exact ⟨place_at hW, ⟨hm.cell 0 _ rfl, hm.cell 1 _ rfl, hm.cell 2 _ rfl, hm.cell 3 _ rfl, hm.cell 4 _ rfl⟩, hm.strs, below_next (below1 V _) hW⟩
  clear h h4 ha
  go_enter Tryz.func35, Tryz.ntmps35
  go_upto_region 4 with (fail)
  clear c19
  try clear d4
  generalize V.alloc _ = W1 at *
  refine wp_region_flow (S := fun W => Below W1.heap.size W1 W) (by kernel_rfl) (by kernel_rfl) (Below.drew (Below.refl _ _)) ?_
  iterate 5
   apply Flow.step
   ·intro V2 K hS hK
    obtain ⟨_, ⟨c0, c1, c2, c3, c4⟩, _⟩ := KC.out V2 hS
    obtain ⟨⟨p0, p1⟩, _⟩ := KC.out V2 hS
    go_simp
    exact hK _ hS
   simp only [lQ]
  apply Flow.step
  ·intro V2 K hS hK
   go_simp
   go_at_call 61
   refine (code1_any E.pb E.cb E.pd E.nd E.cd E.pr E.nr E.cr E.banks E.entry E.vector (m.bank) a 1 V2 (KC.out V2 hS).2.2.1 H.out.env.banks HB.out HA.out (by unfold OkI64; omega)).mono ?_
   rintro e w9 ⟨rfl, h9⟩
   exact hK _ (below_next hS h9)
  simp only [lQ]
  apply Flow.step
  ·intro V2 K hS hK
   go_simp
   exact hK _ hS
  simp only [lQ]
  refine Flow.done ?_
  intro V2 hS
  have HBel := Lib.hid (KC.out _ hS).2.2.2
  clear hS KC
  rw [← HS.out]
  have hsz : (codeS E m a).size ≤ 1 := by rw [HS.out]; exact codeI_size _ _ _
  generalize hs : codeS E m a = s at *
  have he := empty_list s
  by_cases h0 : s.size = 0
  ·have HR := Lib.hid (codeM_none (by rw [hs]; exact h0))
   rw [decide_eq_true h0] at he
   clear h0 hs hsz
   go_wp2_with (go_at_call 34; refine (raise_any _ _ _).mono ?_; rintro e w' ⟨rfl, rfl⟩)
   exact panics rfl (codePost_none HR.out HBel.out)
  ·have HR := Lib.hid (codeM_some (by rw [hs]; exact h0))
   rw [decide_eq_false h0] at he
   have hz : 0 < s.size := by omega
   have hzi : (0 : Int) < (s.size : Int) := by omega
   have hx := byteI_at s 0 hz
   rw [hs] at HR
   clear h0 hs hsz
   go_wp2
   go_ret
   exact codePost_some HR.out HBel.out
 ·have d4 : decide (4096 ≤ a) = false := decide_eq_false h4
  have HS : Hid (codeS E m a = codeI E.banks (0) a 1) := Lib.hid (by unfold codeS; rw [if_neg h4])
  have HB : Hid (OkI64 (0)) := Lib.hid (by unfold OkI64; omega)
  have KC : Hid (∀ W, Below (V.alloc (Obj.cells #[.int .i64 (0), .int .u16 a] 96)).heap.size (V.alloc (Obj.cells #[.int .i64 (0), .int .u16 a] 96)) W → (W.cell? ⟨V.heap.size, 0, none⟩ = some (.int .i64 (0)) ∧ W.cell? ⟨V.heap.size, 1, none⟩ = some (.int .u16 a)) ∧ (W.cell? ⟨E.B, 0, none⟩ = some (.slice E.pb E.banks.length E.cb) ∧ W.cell? ⟨E.B, 1, none⟩ = some (.int .u16 E.entry) ∧ W.cell? ⟨E.B, 2, none⟩ = some (.int .u16 E.vector) ∧ W.cell? ⟨E.B, 3, none⟩ = some (.slice E.pd E.nd E.cd) ∧ W.cell? ⟨E.B, 4, none⟩ = some (.slice E.pr E.nr E.cr)) ∧ StrsAt W E.pb E.banks ∧ Below V.heap.size V W) := Lib.hid fun W hW => by
   have hm := (h.next (below1 V _)).next hW
   exact ⟨place_at hW, ⟨hm.cell 0 _ rfl, hm.cell 1 _ rfl, hm.cell 2 _ rfl, hm.cell 3 _ rfl, hm.cell 4 _ rfl⟩, hm.strs, below_next (below1 V _) hW⟩
  clear h h4 ha
  go_enter Tryz.func35, Tryz.ntmps35
  go_upto_region 4 with (fail)
  skip
  try clear d4
  generalize V.alloc _ = W1 at *
  refine wp_region_flow (S := fun W => Below W1.heap.size W1 W) (by kernel_rfl) (by kernel_rfl) (Below.drew (Below.refl _ _)) ?_
  iterate 5
   apply Flow.step
   ·intro V2 K hS hK
    obtain ⟨_, ⟨c0, c1, c2, c3, c4⟩, _⟩ := KC.out V2 hS
    obtain ⟨⟨p0, p1⟩, _⟩ := KC.out V2 hS
    go_simp
    exact hK _ hS
   simp only [lQ]
  apply Flow.step
  ·intro V2 K hS hK
   go_simp
   go_at_call 61
   refine (code1_any E.pb E.cb E.pd E.nd E.cd E.pr E.nr E.cr E.banks E.entry E.vector (0) a 1 V2 (KC.out V2 hS).2.2.1 H.out.env.banks HB.out HA.out (by unfold OkI64; omega)).mono ?_
   rintro e w9 ⟨rfl, h9⟩
   exact hK _ (below_next hS h9)
  simp only [lQ]
  apply Flow.step
  ·intro V2 K hS hK
   go_simp
   exact hK _ hS
  simp only [lQ]
  refine Flow.done ?_
  intro V2 hS
  have HBel := Lib.hid (KC.out _ hS).2.2.2
  clear hS KC
  rw [← HS.out]
  have hsz : (codeS E m a).size ≤ 1 := by rw [HS.out]; exact codeI_size _ _ _
  generalize hs : codeS E m a = s at *
  have he := empty_list s
  by_cases h0 : s.size = 0
  ·have HR := Lib.hid (codeM_none (by rw [hs]; exact h0))
   rw [decide_eq_true h0] at he
   clear h0 hs hsz
   go_wp2_with (go_at_call 34; refine (raise_any _ _ _).mono ?_; rintro e w' ⟨rfl, rfl⟩)
   exact panics rfl (codePost_none HR.out HBel.out)
  ·have HR := Lib.hid (codeM_some (by rw [hs]; exact h0))
   rw [decide_eq_false h0] at he
   have hz : 0 < s.size := by omega
   have hzi : (0 : Int) < (s.size : Int) := by omega
   have hx := byteI_at s 0 hz
   rw [hs] at HR
   clear h0 hs hsz
   go_wp2
   go_ret
   exact codePost_some HR.out HBel.out
theorem Mach.Ok.pcs {m : Mach} (h : m.Ok) {x : Int} (hx : OkU16 x) : Mach.Ok { m with pc := x } := by
 obtain ⟨a1, a2, a3, a4, a5, a6, a7, a8, a9, a10, a11, a12, a13, a14⟩ := h
 exact ⟨a1, hx, a3, a4, a5, a6, a7, a8, a9, a10, a11, a12, a13, a14⟩
theorem Mach.Ok.banks {m : Mach} (h : m.Ok) {x : Int} (hx : OkI64 x) : Mach.Ok { m with bank := x } := by
 obtain ⟨a1, a2, a3, a4, a5, a6, a7, a8, a9, a10, a11, a12, a13, a14⟩ := h
 exact ⟨a1, a2, a3, a4, a5, hx, a7, a8, a9, a10, a11, a12, a13, a14⟩
theorem Mach.Ok.fps {m : Mach} (h : m.Ok) {x : Int} (hx : OkU16 x) : Mach.Ok { m with fp := x } := by
 obtain ⟨a1, a2, a3, a4, a5, a6, a7, a8, a9, a10, a11, a12, a13, a14⟩ := h
 exact ⟨a1, a2, a3, hx, a5, a6, a7, a8, a9, a10, a11, a12, a13, a14⟩
theorem Mach.Ok.fs {m : Mach} (h : m.Ok) {x : Int} (hx : OkU16 x) : Mach.Ok { m with f := x } := by
 obtain ⟨a1, a2, a3, a4, a5, a6, a7, a8, a9, a10, a11, a12, a13, a14⟩ := h
 exact ⟨a1, a2, a3, a4, hx, a6, a7, a8, a9, a10, a11, a12, a13, a14⟩
theorem Mach.Ok.inps {m : Mach} (h : m.Ok) {x : Int} (hx : OkI64 x) : Mach.Ok { m with inputs := x } := by
 obtain ⟨a1, a2, a3, a4, a5, a6, a7, a8, a9, a10, a11, a12, a13, a14⟩ := h
 exact ⟨a1, a2, a3, a4, a5, a6, a7, hx, a9, a10, a11, a12, a13, a14⟩
theorem Mach.Ok.polls' {m : Mach} (h : m.Ok) {x : Int} (hx : OkI64 x) : Mach.Ok { m with polls := x } := by
 obtain ⟨a1, a2, a3, a4, a5, a6, a7, a8, a9, a10, a11, a12, a13, a14⟩ := h
 exact ⟨a1, a2, a3, a4, a5, a6, a7, a8, hx, a10, a11, a12, a13, a14⟩
theorem Mach.Ok.stepss {m : Mach} (h : m.Ok) {x : Int} (hx : OkI64 x) : Mach.Ok { m with steps := x } := by
 obtain ⟨a1, a2, a3, a4, a5, a6, a7, a8, a9, a10, a11, a12, a13, a14⟩ := h
 exact ⟨a1, a2, a3, a4, a5, a6, hx, a8, a9, a10, a11, a12, a13, a14⟩
theorem Mach.Ok.sps {m : Mach} (h : m.Ok) {x : Int} (hx : OkU16 x) : Mach.Ok { m with sp := x } := by
 obtain ⟨a1, a2, a3, a4, a5, a6, a7, a8, a9, a10, a11, a12, a13, a14⟩ := h
 exact ⟨a1, a2, hx, a4, a5, a6, a7, a8, a9, a10, a11, a12, a13, a14⟩
def setR (r : Nat → Int) (j : Nat) (v : Int) : Nat → Int := fun i => if i = j then v else r i
theorem Mach.Ok.regs {m : Mach} (h : m.Ok) (j : Nat) {x : Int} (hx : OkU16 x) : Mach.Ok { m with R := setR m.R j x } := by
 obtain ⟨a1, a2, a3, a4, a5, a6, a7, a8, a9, a10, a11, a12, a13, a14⟩ := h
 refine ⟨fun k => ?_, a2, a3, a4, a5, a6, a7, a8, a9, a10, a11, a12, a13, a14⟩
 dsimp only [setR]
 split
 ·exact hx
 ·exact a1 k
/-- A register is set. -/
theorem mcells_reg (E : Env) (m : Mach) (sv ov : Value) (d : Nat) (x : Int) (hd : d < 8) : mcells E { m with R := setR m.R d x } sv ov = (mcells E m sv ov).set (7 + d) (.int .u16 x) := by
 rcases (show d = 0 ∨ d = 1 ∨ d = 2 ∨ d = 3 ∨ d = 4 ∨ d = 5 ∨ d = 6 ∨ d = 7 by omega) with rfl | rfl | rfl | rfl | rfl | rfl | rfl | rfl <;> rfl
theorem mcells_getR (E : Env) (m : Mach) (sv ov : Value) (d : Nat) (hd : d < 8) : (mcells E m sv ov)[7 + d]? = some (.int .u16 (m.R d)) := by
 rcases (show d = 0 ∨ d = 1 ∨ d = 2 ∨ d = 3 ∨ d = 4 ∨ d = 5 ∨ d = 6 ∨ d = 7 by omega) with rfl | rfl | rfl | rfl | rfl | rfl | rfl | rfl <;> rfl
theorem MachAt.setPc {E : Env} {V : World} {m : Mach} {sv ov : Value} (h : MachAt E V m sv ov) {x : Int} (hx : OkU16 x) : MachAt E (V.setCell ⟨E.B, 15, none⟩ (.int .u16 x)) { m with pc := x } sv ov := h.put 15 _ rfl rfl h.st h.out (h.ok.pcs hx)
theorem MachAt.setSp {E : Env} {V : World} {m : Mach} {sv ov : Value} (h : MachAt E V m sv ov) {x : Int} (hx : OkU16 x) : MachAt E (V.setCell ⟨E.B, 16, none⟩ (.int .u16 x)) { m with sp := x } sv ov := h.put 16 _ rfl rfl h.st h.out (h.ok.sps hx)
theorem MachAt.setFp {E : Env} {V : World} {m : Mach} {sv ov : Value} (h : MachAt E V m sv ov) {x : Int} (hx : OkU16 x) : MachAt E (V.setCell ⟨E.B, 17, none⟩ (.int .u16 x)) { m with fp := x } sv ov := h.put 17 _ rfl rfl h.st h.out (h.ok.fps hx)
theorem MachAt.setF {E : Env} {V : World} {m : Mach} {sv ov : Value} (h : MachAt E V m sv ov) {x : Int} (hx : OkU16 x) : MachAt E (V.setCell ⟨E.B, 18, none⟩ (.int .u16 x)) { m with f := x } sv ov := h.put 18 _ rfl rfl h.st h.out (h.ok.fs hx)
theorem MachAt.setBank {E : Env} {V : World} {m : Mach} {sv ov : Value} (h : MachAt E V m sv ov) {x : Int} (hx : OkI64 x) : MachAt E (V.setCell ⟨E.B, 19, none⟩ (.int .i64 x)) { m with bank := x } sv ov := h.put 19 _ rfl rfl h.st h.out (h.ok.banks hx)
theorem MachAt.setSteps {E : Env} {V : World} {m : Mach} {sv ov : Value} (h : MachAt E V m sv ov) {x : Int} (hx : OkI64 x) : MachAt E (V.setCell ⟨E.B, 20, none⟩ (.int .i64 x)) { m with steps := x } sv ov := h.put 20 _ rfl rfl h.st h.out (h.ok.stepss hx)
theorem MachAt.setInp {E : Env} {V : World} {m : Mach} {sv ov : Value} (h : MachAt E V m sv ov) {x : Int} (hx : OkI64 x) : MachAt E (V.setCell ⟨E.B, 21, none⟩ (.int .i64 x)) { m with inputs := x } sv ov := h.put 21 _ rfl rfl h.st h.out (h.ok.inps hx)
theorem MachAt.setPolls {E : Env} {V : World} {m : Mach} {sv ov : Value} (h : MachAt E V m sv ov) {x : Int} (hx : OkI64 x) : MachAt E (V.setCell ⟨E.B, 22, none⟩ (.int .i64 x)) { m with polls := x } sv ov := h.put 22 _ rfl rfl h.st h.out (h.ok.polls' hx)
theorem MachAt.setReg {E : Env} {V : World} {m : Mach} {sv ov : Value} (h : MachAt E V m sv ov) (d : Nat) (hd : d < 8) {x : Int} (hx : OkU16 x) : MachAt E (V.setCell ⟨E.B, 7 + d, none⟩ (.int .u16 x)) { m with R := setR m.R d x } sv ov := h.put (7 + d) _ (mcells_reg E m sv ov d x hd) rfl h.st h.out (h.ok.regs d hx)
/-- What a method does that only reads or stores: the new machine, or a trap that left the machine's rows as they were. -/
structure Did (E : Env) (V : World) (m : Mach) (w' : World) (m' : Mach) : Prop where
 at' : ∃ sv ov, MachAt E w' m' sv ov
 keeps : Keeps E.base V w'
structure Trapped (E : Env) (V : World) (m : Mach) (sv ov : Value) (w' : World) : Prop where
 at' : ∃ m' sv', MachAt E w' m' sv' ov ∧ m'.ram = m.ram ∧ m'.out = m.out
 st : w'.ownsRow E.base 22 1 sv m.st.length (m.st.map (Value.int .u16))
 keeps : Keeps E.base V w'
/-- The outcome of a method without a result. -/
def Done (E : Env) (V : World) (m : Mach) (sv ov : Value) (r : Except (Int × Int) Mach) (e : Ending) (w' : World) : Prop :=
 match r with
 | .ok m' => e = .returned (.tuple #[]) ∧ Did E V m w' m'
 | .error t => e = trapE t.1 t.2 ∧ Trapped E V m sv ov w'
theorem done_ok {E : Env} {V : World} {m m' : Mach} {sv ov : Value} {r : Except (Int × Int) Mach} {w' : World} (hr : r = .ok m') (h : Did E V m w' m') : Done E V m sv ov r (.returned (.tuple #[])) w' := by subst hr; exact ⟨rfl, h⟩
theorem done_err {E : Env} {V : World} {m : Mach} {sv ov : Value} {r : Except (Int × Int) Mach} {w' : World} {a b : Int} (hr : r = .error (a, b)) (h : Trapped E V m sv ov w') : Done E V m sv ov r (trapE a b) w' := by subst hr; exact ⟨rfl, h⟩
theorem trapped_below {E : Env} {V w' : World} {m : Mach} {sv ov : Value} (h : MachAt E V m sv ov) (hb : Below V.heap.size V w') : Trapped E V m sv ov w' := ⟨⟨m, sv, h.next hb, rfl, rfl⟩, own_next h.st hb, Keeps.of_below hb⟩
end Go.Proofs.YtieaicdihingkaaGreat
namespace Go.Proofs.YtieaicdihingkaaGreat
set_option linter.unusedVariables false
set_option linter.unusedSimpArgs false
open Go.RowKit
theorem info22 : (Tryz.prog.info? 22).map (fun i => (i.zero, i.size, i.bytes)) = some (some (.int .u16 0), 1, 2) := by kernel_rfl
/-- What one append leaves of the rest. -/
structure Pushed (base : Nat) (w w' : World) (v v' : Value) (n : Nat) (xs : List Value) (x : Value) : Prop where
 own : w'.ownsRow base 22 1 v' (n + 1) (xs ++ [x])
 grown : w.grownBy w' v.ownBlock
 saves : ∀ s0 n0 xs0, n0 ≤ n → w.ownsRow base 22 1 s0 n0 xs0 → w'.ownsRow base 22 1 s0 n0 xs0
 apart : ∀ A, A < w.heap.size → v.ownBlock ≠ some A → v'.ownBlock ≠ some A ∧ w'.heap[A]? = w.heap[A]?
set_option maxRecDepth 20000 in
theorem run_push (w : World) (base : Nat) (v : Value) (n : Nat) (xs : List Value) (x : Value) (hown : w.ownsRow base 22 1 v n xs) (ad : Addr) (hx : w.cell? (ad.add 0) = some x) (h1 : x.oneCell' = true) (hn : n ≤ 100000000) (hbase : base ≤ w.heap.size) :
  ∃ v' w', (Builtin.append_ #[33, 33] 33 #[v, .slice (some ad) 1 1]).run Tryz.prog w = .ok v' w' ∧ Pushed base w w' v v' n xs x := by
 obtain ⟨i, hi, hz, hs, hby⟩ : ∃ i, Tryz.prog.info? 22 = some i ∧ i.zero = some (.int .u16 0) ∧ i.size = 1 ∧ i.bytes = 2 := by
  have := info22
  cases h : Tryz.prog.info? 22 with
  | none => rw [h] at this; cases this
  | some y => rw [h] at this; simp at this; exact ⟨y, rfl, this⟩
 have hnews : ∀ j u, ([x] : List Value)[j]? = some u → w.cell? (ad.add j) = some u := by
  intro j u hu
  cases j with
  | zero => simp at hu; subst hu; exact hx
  | succ j => simp at hu
 have hone : ∀ u ∈ ([x] : List Value), u.oneCell' = true := by intro u hu; simp at hu; subst hu; exact h1
 have grown : ∀ (olds : List Value), olds.length = n → olds = xs → ∀ (cap : Nat), n + 1 ≤ cap → cap ≤ maxLen → ∀ (zs : Array Value), zs.size = cap - (n + 1) →
   Pushed base w (w.drew.alloc (.cells (olds.toArray ++ [x].toArray ++ zs) 22)) v (.slice (some ⟨w.heap.size, 0, none⟩) (n + 1) cap) n xs x := by
  intro olds hl he cap hc hcm zs hzs
  subst he
  have hb : Below w.heap.size w (w.drew.alloc (.cells (olds.toArray ++ [x].toArray ++ zs) 22)) := ((Below.refl _ _).drew).alloc (Nat.le_refl _) _
  refine ⟨⟨by simp [hl], .inr ⟨w.heap.size, cap, _, rfl, hbase, heap_alloc_new w.drew _, hc, hcm, by simp [hl, hzs]; omega, ?_⟩⟩, grown_below hb _, fun s0 n0 xs0 _ h => own_next h hb, fun A hA _ => ⟨by simp [Value.ownBlock]; omega, hb.block A hA⟩⟩
  rw [Nat.mul_one]
  simp only [Array.toList_append, List.append_assoc]
  rw [← List.append_assoc, show n + 1 = (olds ++ [x]).length by simp [hl]]
  exact List.take_left
 rcases hown.2 with ⟨rfl, rfl⟩ | ⟨g, cap, cur, rfl, hbg, hg, hnc, hcm, hcs, htake⟩
 ·have hxs : xs = [] := List.eq_nil_of_length_eq_zero (by simpa using hown.1)
  subst hxs
  have hr := run_append_nil (P := Tryz.prog) w 33 33 22 i _ Tryz.underlying33 hi hz ad 1 1 [x] (by simp [hs]) hnews (by omega) (by omega) (by rw [hby]; omega)
  have hg := grown [] rfl rfl (grownCap w 1 0 22) (grownCap_ge w 1 0 22) (grownCap_le_maxLen w 1 0 22 (by unfold maxLen; omega)) (Builtin.zeroCells (Value.int IntKind.u16 0).cells (grownCap w 1 0 22 - 1)) (by rw [size_zeroCells]; simp [Value.cells])
  refine ⟨_, _, hr, ?_⟩
  simpa using hg
 ·by_cases hroom : n + 1 ≤ cap
  ·have hr := run_append_room (P := Tryz.prog) w 33 33 22 i Tryz.underlying33 hi g n cap cur hg ad 1 1 [x] (by simp [hs]) hnews hone hroom (by rw [hs]; simp; omega)
   rw [hs, Nat.mul_one] at hr
   have hl := hown.1
   rw [Nat.mul_one] at hl hcs htake
   refine ⟨_, _, hr, ⟨⟨by simp [hl], .inr ⟨g, cap, _, rfl, hbg, setRow_heap w g cur _ 22 _ hg, hroom, hcm, ?_, ?_⟩⟩, ⟨rfl, rfl, rfl, by simp, fun k _ hk => setRow_other w g k _ (fun e => hk (by simp [Value.ownBlock, e]))⟩, fun s0 n0 xs0 h0 hw => ?_, fun A hA hne => ⟨hne, setRow_other w g A _ (fun e => hne (by simp [Value.ownBlock, e]))⟩⟩⟩
   ·simp; omega
   ·rw [htake, Nat.mul_one]
    rw [show n + 1 = (xs ++ [x]).length by simp [hl]]
    exact List.take_left
   ·refine ⟨hw.1, ?_⟩
    rcases hw.2 with hnil | ⟨g0, cap0, cur0, rfl, hb0, hg0, hn0, hm0, hs0, ht0⟩
    ·exact .inl hnil
    ·by_cases e : g0 = g
     ·subst e
      rw [hg] at hg0
      simp only [Option.some.injEq, Obj.cells.injEq, and_true] at hg0
      subst hg0
      refine .inr ⟨g0, cap0, _, rfl, hb0, setRow_heap w g0 cur _ 22 _ hg, hn0, hm0, ?_, ?_⟩
      ·rw [← hs0]; simp; omega
      ·rw [Nat.mul_one] at ht0 ⊢
       rw [← ht0]
       simp only [List.append_assoc]
       rw [List.take_append_of_le_length (by simp; omega), List.take_take]
       congr 1
       omega
     ·exact .inr ⟨g0, cap0, cur0, rfl, hb0, (setRow_other w g g0 _ e).trans hg0, hn0, hm0, hs0, ht0⟩
  ·have holds : ∀ j u, xs[j]? = some u → w.cell? ((⟨g, 0, none⟩ : Addr).add j) = some u := hown.cells (g := g) rfl
   have hl := hown.1
   rw [Nat.mul_one] at hl
   have hr := run_append_grow (P := Tryz.prog) w 33 33 22 i _ Tryz.underlying33 hi hz ⟨g, 0, none⟩ n cap xs (by rw [hs]; omega) holds ad 1 1 [x] (by simp [hs]) hnews (by omega) (by omega) (growslice_fits (by omega) (by rw [hby]; omega))
   exact ⟨_, _, hr, grown xs hl rfl (grownCap w (n + 1) cap 22) (grownCap_ge w (n + 1) cap 22) (grownCap_le_maxLen w (n + 1) cap 22 (by unfold maxLen; omega)) _ (by rw [size_zeroCells]; simp [Value.cells])⟩
theorem wpList_push (w : World) {ops : Array Oper} {rest : List Oper} {o : Oper} {a : Act} {Q : Exit → Act → World → Prop} (hgd : o.guard = none) (s x : Operand) (hty : o.type = 33)
  (ho : o.op = .call { callee := .builtin .append, args := #[s, x], argTypes := #[33, 33] })
  (base : Nat) (v : Value) (n : Nat) (xs : List Value) (y : Value) (hs : a.eval s = v) (hown : w.ownsRow base 22 1 v n xs) (ad : Addr) (hx : a.eval x = .slice (some ad) 1 1) (hy : w.cell? (ad.add 0) = some y) (h1 : y.oneCell' = true) (hn : n ≤ 100000000) (hbase : base ≤ w.heap.size)
  (h : ∀ v' w', Pushed base w w' v v' n xs y → wpList Tryz.prog ops Q rest (a.put o.dst v') w') : wpList Tryz.prog ops Q (o :: rest) a w := by
 refine wpList_plain hgd fun K hK => ?_
 obtain ⟨v', w', hr, h2⟩ := run_push w base v n xs y hown ad hy h1 hn hbase
 unfold Oper.wp execOp
 simp only [ho, hty, resolve, invoke, builtin, Sem.run_bind, Sem.run_pure, Result.andThen_ok, List.map_toArray, List.map_cons, List.map_nil, hs, hx, hr]
 exact hK _ _ (h v' w' h2)
end Go.Proofs.YtieaicdihingkaaGreat
namespace Go.Proofs.YtieaicdihingkaaGreat
set_option linter.unusedVariables false
set_option linter.unusedSimpArgs false
open Go.RowKit
def Apart (E : Env) (V w' : World) (sv sv' : Value) : Prop := ∀ A, A < V.heap.size → A ≠ E.B → sv.ownBlock ≠ some A → sv'.ownBlock ≠ some A ∧ w'.heap[A]? = V.heap[A]?
theorem Apart.refl (E : Env) (V : World) (sv : Value) : Apart E V V sv sv := fun A _ _ h => ⟨h, rfl⟩
theorem Apart.trans {E : Env} {V V' V'' : World} {s s' s'' : Value} (h : Apart E V V' s s') (k : Apart E V' V'' s' s'') (hs : V.heap.size ≤ V'.heap.size) : Apart E V V'' s s'' := fun A h1 h2 h3 => by
 obtain ⟨a, b⟩ := h A h1 h2 h3
 obtain ⟨c, d⟩ := k A (Nat.lt_of_lt_of_le h1 hs) h2 a
 exact ⟨c, d.trans b⟩
theorem Mach.Ok.push {m : Mach} {l : List Int} (h : m.Ok) (hs : ∀ y ∈ l, OkU16 y) (hl : m.st.length + l.length ≤ 4096) : Mach.Ok { m with st := m.st ++ l } := by
 obtain ⟨a1, a2, a3, a4, a5, a6, a7, a8, a9, a10, a11, a12, a13, a14⟩ := h
 exact ⟨a1, a2, a3, a4, a5, a6, a7, a8, a9, a10, fun y hy => (List.mem_append.1 hy).elim (a11 y) (hs y), by simpa using hl, a13, a14⟩
/-- One push: the append and the store of the header. -/
theorem pushed_at {E : Env} {V W w' : World} {m : Mach} {sv ov v' : Value} {x : Int} (h : MachAt E V m sv ov) (hb : Below V.heap.size V W) (hx : OkU16 x) {n : Nat} (hn : m.st.length = n) (hl : m.st.length + 1 ≤ 4096)
  (hp : Pushed E.base W w' sv v' n (m.st.map (Value.int .u16)) (.int .u16 x)) :
  MachAt E (w'.setCell ⟨E.B, 24, none⟩ v') { m with st := m.st ++ [x] } v' ov ∧ Keeps E.base V (w'.setCell ⟨E.B, 24, none⟩ v') ∧ Saves E V (w'.setCell ⟨E.B, 24, none⟩ v') m.st.length ∧ Apart E V (w'.setCell ⟨E.B, 24, none⟩ v') sv v' ∧ w'.frozen? ⟨E.B, 24, none⟩ = false ∧ w'.cell? ⟨E.B, 24, none⟩ = some sv := by
 subst hn
 have hW := h.next hb
 have hnB : sv.ownBlock ≠ some E.B := fun e => by
  obtain ⟨_, c, f, hk⟩ := own_kind hW.st _ e
  rw [hW.blk] at hk; simp at hk
 obtain ⟨hn1, hblk⟩ := hp.apart E.B hW.lt hnB
 have hkw : Keeps E.base W w' := Keeps.grown hp.grown (fun k hk => by
  obtain ⟨a, c, f, hc⟩ := own_kind hW.st k hk
  exact ⟨a, c, 22, f, hc, .inr (.inr (.inl rfl))⟩)
 have hat : w'.heap[E.B]? = some (.cells (mcells E m sv ov).toArray 63 (0, 0)) := hblk.trans hW.blk
 have hKs : Keeps E.base w' (w'.setCell ⟨E.B, 24, none⟩ v') := Keeps.set hat h.env.lowB (.inl rfl)
 have hK : Keeps E.base V (w'.setCell ⟨E.B, 24, none⟩ v') := ((Keeps.of_below hb).trans hkw).trans hKs
 obtain ⟨cur, hr, hs, hc⟩ := hW.ram
 have hrn : sv.ownBlock ≠ some E.ramB := fun e => by
  obtain ⟨_, c, f, hk⟩ := own_kind hW.st _ e
  rw [hr] at hk; simp at hk
 have hr' := (hp.apart E.ramB (Array.getElem?_eq_some_iff.1 hr).1 hrn).2.trans hr
 have hol : ov.ownBlock = none ∨ ov.ownBlock ≠ sv.ownBlock := by
  cases e : ov.ownBlock with
  | none => exact .inl rfl
  | some k =>
   refine .inr (fun e2 => ?_)
   obtain ⟨_, c1, f1, k1⟩ := own_kind hW.out k e
   obtain ⟨_, c2, f2, k2⟩ := own_kind hW.st k e2.symm
   rw [k1] at k2; simp at k2
 have ho' := hW.out.kept hp.grown hol
 refine ⟨⟨?_, ⟨cur, ?_, hs, hc⟩, ?_, own_set' ho' hat (by decide), h.bnk.keeps hK, h.inp.keeps hK, h.irq.keeps hK, h.ok.push (by simpa using hx) (by simpa using hl), h.env⟩, hK, fun s0 n0 xs0 h0 h1 => own_set' (hp.saves s0 n0 xs0 h0 (own_next h1 hb)) hat (by decide), fun A hA hne hsv => ?_, ?_, ?_⟩
 ·rw [setCell_blk hat]; simp [mcells]
 ·refine (Below.heap_setCell _ _ _ _ (fun e => ?_)).trans hr'
  simp only at e
  rw [e, hat] at hr'
  simp at hr'
 ·have := hp.own
  rw [show m.st.length + 1 = (m.st ++ [x]).length by simp, show m.st.map (Value.int .u16) ++ [Value.int .u16 x] = (m.st ++ [x]).map (Value.int .u16) by simp] at this
  exact own_set' this hat (by decide)
 ·obtain ⟨a, b⟩ := hp.apart A (Nat.lt_of_lt_of_le hA hb.size) hsv
  exact ⟨a, (Below.heap_setCell _ _ _ _ (fun e => hne e)).trans (b.trans (hb.block A hA))⟩
 ·unfold World.frozen?; rw [hat]; simp
 ·rw [Lib.cell_of_heap hat]; rfl
/-- What is to be pushed lies here. -/
structure Src (E : Env) (V : World) (p : Option Addr) (A off : Nat) (l : List Int) : Prop where
 ptr : l = [] ∨ p = some ⟨A, off, none⟩
 cell : ∀ k x, l[k]? = some x → V.cell? ⟨A, off + k, none⟩ = some (.int .u16 x)
 lt : A < V.heap.size
 own : A = E.B → off + l.length ≤ 24
 ok : ∀ x ∈ l, OkU16 x
theorem Src.step {E : Env} {V w' : World} {p : Option Addr} {A off : Nat} {l : List Int} {v v' : Value} (h : Src E V p A off l) (hK : V.heap.size ≤ w'.heap.size) (hA : A ≠ E.B → w'.heap[A]? = V.heap[A]?) (hB : ∀ k x, k < 24 → V.cell? ⟨E.B, k, none⟩ = some x → w'.cell? ⟨E.B, k, none⟩ = some x) : Src E w' p A off l := by
 refine ⟨h.ptr, fun k x hk => ?_, Nat.lt_of_lt_of_le h.lt hK, h.own, h.ok⟩
 have hc := h.cell k x hk
 have hkl : k < l.length := (List.getElem?_eq_some_iff.1 hk).1
 by_cases e : A = E.B
 ·have := h.own e
  rw [e] at hc ⊢
  exact hB _ _ (by omega) hc
 ·unfold World.cell? at *
  dsimp only at hc ⊢
  rw [hA e]
  exact hc
theorem cells_same {E : Env} {V V' : World} {m m' : Mach} {sv sv' ov : Value} (h : MachAt E V m sv ov) (h' : MachAt E V' m' sv' ov) (heq : ∀ j, j < 24 → (mcells E m' sv' ov)[j]? = (mcells E m sv ov)[j]?) : ∀ k x, k < 24 → V.cell? ⟨E.B, k, none⟩ = some x → V'.cell? ⟨E.B, k, none⟩ = some x := by
 intro k x hk hc
 rw [Lib.cell_of_heap h.blk k, List.getElem?_toArray] at hc
 rw [Lib.cell_of_heap h'.blk k, List.getElem?_toArray, heq k hk]
 exact hc
theorem at_take {α : Type} (l : List α) (k : Nat) (x : α) (h : l[k]? = some x) : l.take (k + 1) = l.take k ++ [x] := by rw [List.take_add_one, h]; rfl
def PushPost (E : Env) (V : World) (m : Mach) (sv ov : Value) (l : List Int) (e : Ending) (w' : World) : Prop :=
 (m.st.length + l.length ≤ 4096 ∧ e = .returned (.tuple #[]) ∧ ∃ sv', MachAt E w' { m with st := m.st ++ l } sv' ov ∧ Keeps E.base V w' ∧ Saves E V w' m.st.length ∧ Apart E V w' sv sv') ∨ (¬ m.st.length + l.length ≤ 4096 ∧ e = trapE 5 0 ∧ Trapped E V m sv ov w' ∧ Saves E V w' m.st.length)
set_option maxRecDepth 8000 in
set_option maxHeartbeats 4000000 in
theorem push_any {E : Env} {V : World} {m : Mach} {sv ov : Value} (h : MachAt E V m sv ov) (p : Option Addr) (A off c : Nat) (l : List Int) (hs : Src E V p A off l) (hne : A ≠ E.B → sv.ownBlock ≠ some A) (hl : l.length ≤ 100000) :
  Calls Tryz.prog 66 #[.pointer (some ⟨E.B, 0, none⟩), .slice p l.length c] V (PushPost E V m sv ov l) := by
 have H := Lib.hid h
 have HS := Lib.hid hs
 have HN := Lib.hid hne
 clear h hs hne
 go_enter Tryz.func66, Tryz.ntmps66
 go_wp2_with fail
 go_loopw [8] (fun i_ wr => ∃ k : Nat, k ≤ l.length ∧ i_ = .int .i64 k ∧ m.st.length + k ≤ 4096 ∧ ∃ sv1, MachAt E wr { m with st := m.st ++ l.take k } sv1 ov ∧ Keeps E.base V wr ∧ Saves E V wr m.st.length ∧ Apart E V wr sv sv1 ∧ Src E wr p A off l) (fun i_ _ => l.length - (intOf i_).toNat)
 case atStart => exact ⟨0, by omega, rfl, H.out.ok.len, sv, by simpa using H.out, Keeps.refl _ _, fun _ _ _ _ h => h, Apart.refl _ _ _, HS.out⟩
 case round =>
  obtain ⟨k, hk, rfl, hst, sv1, h1, hK, hSv, hAp, hSrc⟩ := hrel
  by_cases hlt : k < l.length
  ·have b0 : decide ((k : Int) < (l.length : Int)) = true := decide_eq_true (by omega)
   obtain ⟨x, hx⟩ := at_some l k hlt
   have hcx := hSrc.cell k x hx
   have hptr : p = some ⟨A, off, none⟩ := hSrc.ptr.resolve_left (fun e => by rw [e] at hlt; simp at hlt)
   subst hptr
   have hox := hSrc.ok x (List.mem_of_getElem? hx)
   obtain ⟨p1, c1, rfl, hc1, hp1⟩ := own_slice h1.st
   have c24 := h1.cell 24 _ rfl
   have z24 := h1.frz 24
   have hlen : (m.st ++ l.take k).length = m.st.length + k := by rw [List.length_append, List.length_take]; omega
   dsimp only at h1 c24 hp1 hc1 hlen
   obtain ⟨S, hS⟩ : ∃ S, m.st ++ l.take k = S := ⟨_, rfl⟩
   rw [hS] at h1 c24 hp1 hc1 hlen hAp
   obtain ⟨n, hn⟩ : ∃ n, S.length = n := ⟨_, rfl⟩
   rw [hn] at h1 c24 hp1 hc1 hlen hAp
   have HSS := Lib.hid hS
   have Hn := Lib.hid hn
   clear hS hn
   have x1 : IntKind.i64.wrap ((k : Int) + 1) = (k : Int) + 1 := IntWalk.i64_in _ (by omega)
   have d5 : (k : Int) < (l.length : Int) := by omega
   have d6 : (0 : Int) ≤ (k : Int) := by omega
   have HX := Lib.hid hx
   have H1 := Lib.hid h1
   have HKp := Lib.hid hK
   have HSv := Lib.hid hSv
   have HAp := Lib.hid hAp
   have HSr := Lib.hid hSrc
   have HLn := Lib.hid hlen
   have HOX := Lib.hid hox
   have KO : Hid (∀ o, (wr.alloc o).ownsRow E.base 22 1 (.slice p1 n c1) n (S.map (Value.int .u16))) := Lib.hid fun o => by
    have := own_next h1.st (below1 wr o)
    dsimp only at this
    rw [Hn.out] at this
    exact this
   clear hx h1 hK hSv hAp hSrc hp1 hc1 hlen hox
   by_cases hf : m.st.length + k = 4096
   ·have d1 : ((n : Int) == 4096) = true := by rw [HLn.out, beq_iff_eq]; omega
    have HT : Hid (Trapped E V m sv ov wr ∧ Saves E V wr m.st.length) := Lib.hid ⟨⟨⟨_, _, H1.out, rfl, rfl⟩, HSv.out sv _ _ (Nat.le_refl _) H.out.st, HKp.out⟩, HSv.out⟩
    have HF : Hid (¬ m.st.length + l.length ≤ 4096) := Lib.hid (by omega)
    clear hf
    go_wp2_with (go_at_call 34; refine (raise_any _ _ _).mono ?_; rintro e w' ⟨rfl, rfl⟩)
    exact panics rfl (.inr ⟨HF.out, rfl, HT.out⟩)
   ·have d1 : ((n : Int) == 4096) = false := by rw [HLn.out, beq_eq_false_iff_ne]; omega
    have HF : Hid (m.st.length + k + 1 ≤ 4096) := Lib.hid (by omega)
    clear hf
    go_wp2_with (at_builtin; refine Hid.out ?_)
    refine Lib.hid ?_
    refine wpList_push _ rfl _ _ rfl rfl E.base _ n (S.map (Value.int .u16)) (.int .u16 x) rfl (KO.out _) _ rfl ?_ rfl (by rw [HLn.out]; have := HF.out; omega) (by have := H1.out.base; simp; omega) ?_
    ·simp [go_sem]
    ·intro v2 w2 hp
     obtain ⟨p2, c2, rfl, _, _⟩ := own_slice hp.own
     have hp' : Pushed E.base _ w2 (.slice p1 n c1) (.slice p2 (n + 1) c2) n _ _ := hp
     obtain ⟨q1, q2, q3, q4, q5, q6⟩ := pushed_at (m := { m with st := S }) H1.out (below1 _ _) HOX.out Hn.out (by rw [Hn.out]; have := HF.out; have := HLn.out; omega) hp'
     have Q1 := Lib.hid q1
     have Q2 := Lib.hid (HKp.out.trans q2)
     have Q3 := Lib.hid (HSv.out.trans q3 (by dsimp only; rw [Hn.out, HLn.out]; omega))
     have Q4 := Lib.hid (HAp.out.trans q4 HKp.out.size)
     have Q5 : Hid (Src E (w2.setCell ⟨E.B, 24, none⟩ (.slice p2 (n + 1) c2)) (some ⟨A, off, none⟩) A off l) := Lib.hid (HSr.out.step (v := .slice p1 n c1) (v' := .slice p1 n c1) q2.size (fun e => (q4 A HSr.out.lt e (HAp.out A HS.out.lt e (HN.out e)).1).2) (cells_same H1.out q1 (fun j hj => by rw [show mcells E { m with st := S ++ [x] } (.slice p2 (n + 1) c2) ov = (mcells E { m with st := S } (.slice p1 n c1) ov).set 24 (.slice p2 (n + 1) c2) from rfl, List.getElem?_set_ne (by omega)])))
     clear q1 q2 q3 q4 hp hp' hcx
     go_wp2_with fail
     go_roundw
     case rel => exact ⟨k + 1, by omega, by go_num, by have := HF.out; omega, .slice p2 (n + 1) c2, by have h9 := Q1.out; dsimp only at h9; rw [← HSS.out, List.append_assoc, ← at_take l k x HX.out] at h9; exact h9, Q2.out, Q3.out, Q4.out, Q5.out⟩
     case measure => simp [intOf]; omega
  ·obtain rfl : k = l.length := by omega
   have b0 : decide (((l.length : Nat) : Int) < (l.length : Int)) = false := decide_eq_false (by omega)
   have HR : Hid (PushPost E V m sv ov l (.returned (.tuple #[])) wr) := Lib.hid (.inl ⟨hst, rfl, sv1, by rw [List.take_length] at h1; exact h1, hK, hSv, hAp⟩)
   clear h1 hK hSv hAp hSrc
   go_wp2_with fail
   exact bodyPost_ret (by simp [results, Tryz.results66]) rfl HR.out
end Go.Proofs.YtieaicdihingkaaGreat
namespace Go.Proofs.YtieaicdihingkaaGreat
set_option linter.unusedVariables false
set_option linter.unusedSimpArgs false
open Go.RowKit
theorem ends {fn : Func} {R : Ending → World → Prop} {a : Act} {w : World} {v : Value} (hr : (results fn a.tmps).run Tryz.prog w = .ok v w) (hd : a.defers = []) (h : R (.returned v) w) : bodyPost Tryz.prog fn R .normal a w := ⟨hd, v, hr, h⟩
def tableM (E : Env) (m : Mach) (a : Int) : Except (Int × Int) Mach :=
 match codeM E m a with
 | none => .error (2, a)
 | some lo => match codeM E m ((a + 1) % 65536) with
  | none => .error (2, (a + 1) % 65536)
  | some hi => .ok { m with pc := lo + hi * 256 }
theorem codeM_bd {E : Env} {m : Mach} {a c : Int} (h : codeM E m a = some c) : 0 ≤ c ∧ c < 256 := by
 unfold codeM at h
 split at h
 ·cases h
 ·simp only [Option.some.injEq] at h; subst h; exact byteI_bd _ _
theorem code_no {E : Env} {V : World} {m : Mach} {sv ov : Value} (h : MachAt E V m sv ov) {a : Int} (ha : OkU16 a) (hc : codeM E m a = none) : Calls Tryz.prog 35 #[.pointer (some ⟨E.B, 0, none⟩), .int .u16 a] V fun e w' => e = trapE 2 a ∧ Below V.heap.size V w' :=
 (code_at h a ha).mono fun e w' q => by unfold CodePost at q; rw [hc] at q; exact q
theorem code_yes {E : Env} {V : World} {m : Mach} {sv ov : Value} (h : MachAt E V m sv ov) {a c : Int} (ha : OkU16 a) (hc : codeM E m a = some c) : Calls Tryz.prog 35 #[.pointer (some ⟨E.B, 0, none⟩), .int .u16 a] V fun e w' => e = .returned (.int .u8 c) ∧ Below V.heap.size V w' :=
 (code_at h a ha).mono fun e w' q => by unfold CodePost at q; rw [hc] at q; exact q
set_option maxRecDepth 8000 in
set_option maxHeartbeats 4000000 in
theorem table_any {E : Env} {V : World} {m : Mach} {sv ov : Value} (h : MachAt E V m sv ov) (a : Int) (ha : OkU16 a) : Calls Tryz.prog 76 #[.pointer (some ⟨E.B, 0, none⟩), .int .u16 a] V (Done E V m sv ov (tableM E m a)) := by
 have H := Lib.hid h
 have ha1 : OkU16 ((a + 1) % 65536) := by unfold OkU16; omega
 have hw : IntKind.u16.wrap (a + 1) = (a + 1) % 65536 := by rw [IntKind.wrap_u16]
 cases h1 : codeM E m a with
 | none =>
  have HC := Lib.hid (code_no h ha h1)
  have HR : Hid (tableM E m a = .error (2, a)) := Lib.hid (by unfold tableM; rw [h1])
  clear h h1 ha ha1 hw
  go_enter Tryz.func76, Tryz.ntmps76
  go_wp2_with (go_at_call 35; refine HC.out.mono ?_; rintro e w' ⟨rfl, hb⟩)
  exact panics rfl (done_err HR.out (trapped_below H.out hb))
 | some lo =>
  have HC := Lib.hid (code_yes h ha h1)
  cases h2 : codeM E m ((a + 1) % 65536) with
  | none =>
   have HC2 : Hid (∀ V', Below V.heap.size V V' → Calls Tryz.prog 35 #[.pointer (some ⟨E.B, 0, none⟩), .int .u16 ((a + 1) % 65536)] V' fun e w' => e = trapE 2 ((a + 1) % 65536) ∧ Below V'.heap.size V' w') := Lib.hid fun V' hV => code_no (h.next hV) ha1 h2
   have HR : Hid (tableM E m a = .error (2, (a + 1) % 65536)) := Lib.hid (by unfold tableM; rw [h1]; dsimp only; rw [h2])
   obtain ⟨l0, l1⟩ := codeM_bd h1
   clear h h1 ha ha1 h2
   go_enter Tryz.func76, Tryz.ntmps76
   go_wp2_with fail
   refine HC.out.mono ?_
   rintro e w1 ⟨rfl, hb1⟩
   have HB1 := Lib.hid hb1
   clear hb1
   go_wp2_with (go_at_call 35; refine (HC2.out _ HB1.out).mono ?_; rintro e w' ⟨rfl, hb⟩)
   exact panics rfl (done_err HR.out (trapped_below H.out (below_next HB1.out hb)))
  | some hi =>
   have HC2 : Hid (∀ V', Below V.heap.size V V' → Calls Tryz.prog 35 #[.pointer (some ⟨E.B, 0, none⟩), .int .u16 ((a + 1) % 65536)] V' fun e w' => e = .returned (.int .u8 hi) ∧ Below V'.heap.size V' w') := Lib.hid fun V' hV => code_yes (h.next hV) ha1 h2
   have HR : Hid (tableM E m a = .ok { m with pc := lo + hi * 256 }) := Lib.hid (by unfold tableM; rw [h1]; dsimp only; rw [h2])
   obtain ⟨l0, l1⟩ := codeM_bd h1
   obtain ⟨g0, g1⟩ := codeM_bd h2
   have HO := Lib.hid (or_bytes lo hi l0 l1 g0 g1)
   have HOk : Hid (OkU16 (lo + hi * 256)) := Lib.hid (by unfold OkU16; omega)
   have x1 : IntKind.u16.wrap lo = lo := by rw [IntKind.wrap_u16]; omega
   have x2 : IntKind.u16.wrap hi = hi := by rw [IntKind.wrap_u16]; omega
   clear h h1 ha ha1 h2
   go_enter Tryz.func76, Tryz.ntmps76
   go_wp2_with fail
   refine HC.out.mono ?_
   rintro e w1 ⟨rfl, hb1⟩
   have HB1 := Lib.hid hb1
   clear hb1
   go_wp2_with fail
   refine (HC2.out _ HB1.out).mono ?_
   rintro e w2 ⟨rfl, hb2⟩
   have HM := Lib.hid (H.out.next (below_next HB1.out hb2))
   have HB2 := Lib.hid (below_next HB1.out hb2)
   clear hb2 hw
   have c15 := HM.out.cell 15 _ rfl
   have z15 := HM.out.frz 15
   have ho := HO.out
   go_wp2_with fail
   exact bodyPost_ret (by simp [results, Tryz.results76]) rfl (done_ok HR.out ⟨⟨_, _, HM.out.setPc HOk.out⟩, (Keeps.of_below HB2.out).trans (HM.out.putK 15 _)⟩)
def InsAt (W : World) (N : Nat) (i : InsI) : Prop := W.heap[N]? = some (Obj.cells #[.int .i64 i.op, .int .i64 i.d, .int .i64 i.s, .int .u16 i.imm, .int .u16 i.aux, .int .i64 i.bank, .int .i64 i.size] 68 (0, 0))
theorem InsAt.cells {W : World} {N : Nat} {i : InsI} (h : InsAt W N i) : W.cell? ⟨N, 0, none⟩ = some (.int .i64 i.op) ∧ W.cell? ⟨N, 1, none⟩ = some (.int .i64 i.d) ∧ W.cell? ⟨N, 2, none⟩ = some (.int .i64 i.s) ∧ W.cell? ⟨N, 3, none⟩ = some (.int .u16 i.imm) ∧ W.cell? ⟨N, 4, none⟩ = some (.int .u16 i.aux) ∧ W.cell? ⟨N, 5, none⟩ = some (.int .i64 i.bank) ∧ W.cell? ⟨N, 6, none⟩ = some (.int .i64 i.size) :=
 ⟨Lib.cell_of_heap h 0, Lib.cell_of_heap h 1, Lib.cell_of_heap h 2, Lib.cell_of_heap h 3, Lib.cell_of_heap h 4, Lib.cell_of_heap h 5, Lib.cell_of_heap h 6⟩
theorem InsAt.keep {W W' : World} {base N : Nat} {i : InsI} (h : InsAt W N i) (k : Keeps base W W') : InsAt W' N i := k.blk N _ h (.inr ⟨_, _, _, rfl, by decide, by decide, by decide, by decide⟩)
theorem box26 {E : Env} {V : World} {m : Mach} {sv ov : Value} (h : MachAt E V m sv ov) (op d s imm aux bank size : Int) : InsAt (V.alloc (Obj.cells #[.int .i64 op, .int .i64 d, .int .i64 s, .int .u16 imm, .int .u16 aux, .int .i64 bank, .int .i64 size] 68)) V.heap.size ⟨op, d, s, imm, aux, bank, size⟩ ∧ Hid (MachAt E (V.alloc (Obj.cells #[.int .i64 op, .int .i64 d, .int .i64 s, .int .u16 imm, .int .u16 aux, .int .i64 bank, .int .i64 size] 68)) m sv ov) ∧ Hid (Below V.heap.size V (V.alloc (Obj.cells #[.int .i64 op, .int .i64 d, .int .i64 s, .int .u16 imm, .int .u16 aux, .int .i64 bank, .int .i64 size] 68))) ∧ Hid (V.heap.size < (V.alloc (Obj.cells #[.int .i64 op, .int .i64 d, .int .i64 s, .int .u16 imm, .int .u16 aux, .int .i64 bank, .int .i64 size] 68)).heap.size) :=
 ⟨alloc_at V _, Lib.hid (h.next (below1 V _)), Lib.hid (below1 V _), Lib.hid (by simp)⟩
theorem kcK {base B : Nat} {W0 : World} {op d s imm aux bank size : Int} (h : InsAt W0 B ⟨op, d, s, imm, aux, bank, size⟩) : Hid (∀ W, Keeps base W0 W → W.cell? ⟨B, 0, none⟩ = some (.int .i64 op) ∧ W.cell? ⟨B, 1, none⟩ = some (.int .i64 d) ∧ W.cell? ⟨B, 2, none⟩ = some (.int .i64 s) ∧ W.cell? ⟨B, 3, none⟩ = some (.int .u16 imm) ∧ W.cell? ⟨B, 4, none⟩ = some (.int .u16 aux) ∧ W.cell? ⟨B, 5, none⟩ = some (.int .i64 bank) ∧ W.cell? ⟨B, 6, none⟩ = some (.int .i64 size)) :=
 Lib.hid fun W hW => InsAt.cells (i := ⟨op, d, s, imm, aux, bank, size⟩) (h.keep hW)
def farM (m : Mach) (i : InsI) : Mach := { m with pc := i.imm, bank := if 4096 ≤ i.imm ∧ i.imm < 8192 then i.bank else m.bank }
theorem farM_in {m : Mach} {i : InsI} (h : 4096 ≤ i.imm ∧ i.imm < 8192) : farM m i = { { m with pc := i.imm } with bank := i.bank } := by unfold farM; rw [if_pos h]
theorem farM_out {m : Mach} {i : InsI} (h : ¬ (4096 ≤ i.imm ∧ i.imm < 8192)) : farM m i = { m with pc := i.imm } := by unfold farM; rw [if_neg h]
set_option maxRecDepth 8000 in
set_option maxHeartbeats 4000000 in
theorem far_any {E : Env} {V : World} {m : Mach} {sv ov : Value} (h : MachAt E V m sv ov) (i : InsI) (hi : OkU16 i.imm) (hb : OkI64 i.bank) : Calls Tryz.prog 75 #[.pointer (some ⟨E.B, 0, none⟩), .agg #[.int .i64 i.op, .int .i64 i.d, .int .i64 i.s, .int .u16 i.imm, .int .u16 i.aux, .int .i64 i.bank, .int .i64 i.size]] V
  fun e w' => e = .returned (.tuple #[]) ∧ MachAt E w' (farM m i) sv ov ∧ Keeps E.base V w' := by
 have hI : InsAt (V.alloc (Obj.cells #[.int .i64 i.op, .int .i64 i.d, .int .i64 i.s, .int .u16 i.imm, .int .u16 i.aux, .int .i64 i.bank, .int .i64 i.size] 68)) V.heap.size i := alloc_at V _
 have HI := Lib.hid hI
 have HM := Lib.hid (h.next (below1 V (Obj.cells #[.int .i64 i.op, .int .i64 i.d, .int .i64 i.s, .int .u16 i.imm, .int .u16 i.aux, .int .i64 i.bank, .int .i64 i.size] 68)))
 have HK : Hid (Keeps E.base V (V.alloc (Obj.cells #[.int .i64 i.op, .int .i64 i.d, .int .i64 i.s, .int .u16 i.imm, .int .u16 i.aux, .int .i64 i.bank, .int .i64 i.size] 68))) := Lib.hid (Keeps.of_below (below1 V _))
 have HOI := Lib.hid hi
 have HOB := Lib.hid hb
 have hne : ¬ E.B = V.heap.size := Nat.ne_of_lt h.lt
 clear h hI hi hb
 go_enter Tryz.func75, Tryz.ntmps75
 go_upto_region 1 with (fail)
 generalize V.alloc _ = W at *
 obtain ⟨i0, i1, i2, i3, i4, i5, i6⟩ := HI.out.cells
 have c15 := HM.out.cell 15 _ rfl
 have z15 := HM.out.frz 15
 go_upto_region 2 with (fail)
 have HM2 := Lib.hid (HM.out.setPc HOI.out)
 have HK2 := Lib.hid (HK.out.trans (HM.out.putK 15 (.int .u16 i.imm)))
 have HI2 := Lib.hid (HI.out.keep (HM.out.putK 15 (.int .u16 i.imm)))
 clear i0 i1 i2 i3 i4 i5 i6 c15 z15 HM HK HI
 generalize W.setCell _ _ = W2 at *
 obtain ⟨i0, i1, i2, i3, i4, i5, i6⟩ := HI2.out.cells
 have c19 := HM2.out.cell 19 _ rfl
 have z19 := HM2.out.frz 19
 by_cases g1 : 4096 ≤ i.imm
 ·have d1 : decide (4096 ≤ i.imm) = true := decide_eq_true g1
  by_cases g2 : i.imm < 8192
  ·have d2 : decide (i.imm < 8192) = true := decide_eq_true g2
   have HR := Lib.hid (farM_in (m := m) ⟨g1, g2⟩)
   clear g1 g2
   go_wp2_with fail
   exact ends (v := .tuple #[]) (by simp [results, Tryz.results75]) rfl ⟨rfl, by rw [HR.out]; exact HM2.out.setBank HOB.out, HK2.out.trans (HM2.out.putK 19 _)⟩
  ·have d2 : decide (i.imm < 8192) = false := decide_eq_false g2
   have HR := Lib.hid (farM_out (m := m) (i := i) (fun q => g2 q.2))
   clear g1 g2
   go_wp2_with fail
   exact ends (v := .tuple #[]) (by simp [results, Tryz.results75]) rfl ⟨rfl, by rw [HR.out]; exact HM2.out, HK2.out⟩
 ·have d1 : decide (4096 ≤ i.imm) = false := decide_eq_false g1
  have HR := Lib.hid (farM_out (m := m) (i := i) (fun q => g1 q.1))
  clear g1
  go_wp2_with fail
  exact ends (v := .tuple #[]) (by simp [results, Tryz.results75]) rfl ⟨rfl, by rw [HR.out]; exact HM2.out, HK2.out⟩
end Go.Proofs.YtieaicdihingkaaGreat
namespace Go.Proofs.YtieaicdihingkaaGreat
set_option linter.unusedVariables false
set_option linter.unusedSimpArgs false
open Go.RowKit
def ramOk (a : Int) : Prop := 16384 ≤ a ∧ a < 24576
instance (a : Int) : Decidable (ramOk a) := by unfold ramOk; infer_instance
/-- The first address of n that lies outside of RAM. -/
def ramBad (a : Int) : Nat → Nat → Option Int
 | _, 0 => none
 | k, n + 1 => if ramOk ((a + k) % 65536) then ramBad a (k + 1) n else some ((a + k) % 65536)
theorem info156 : (Tryz.prog.info? 128).map (fun i => (i.zero, i.size, i.bytes)) = some (some (.pointer none), 1, 8) := by kernel_rfl
def ptrs (E : Env) (a : Int) (k : Nat) : List Value := (List.range k).map fun j : Nat => .pointer (some ⟨E.ramB, ((a + j) % 65536 - 16384).toNat, none⟩)
theorem ptrs_step (E : Env) (a : Int) (k : Nat) : ptrs E a (k + 1) = ptrs E a k ++ [.pointer (some ⟨E.ramB, ((a + k) % 65536 - 16384).toNat, none⟩)] := by
 unfold ptrs; rw [List.range_succ]; simp
def CellsPost (E : Env) (V : World) (a : Int) (n : Nat) (e : Ending) (w' : World) : Prop :=
 (match ramBad a 0 n with
  | some x => e = trapE 2 x
  | none => ∃ v, e = .returned v ∧ w'.ownsRow V.heap.size 128 1 v n (ptrs E a n) ∧ ∀ k : Nat, k < n → ramOk ((a + k) % 65536)) ∧ Below V.heap.size V w'
theorem cellsPost_err {E : Env} {V w' : World} {a x : Int} {n : Nat} (h : ramBad a 0 n = some x) (hb : Below V.heap.size V w') : CellsPost E V a n (trapE 2 x) w' := by unfold CellsPost; rw [h]; exact ⟨rfl, hb⟩
theorem cellsPost_ok {E : Env} {V w' : World} {a : Int} {n : Nat} {v : Value} (h : ramBad a 0 n = none) (ho : w'.ownsRow V.heap.size 128 1 v n (ptrs E a n)) (hk : ∀ k : Nat, k < n → ramOk ((a + k) % 65536)) (hb : Below V.heap.size V w') : CellsPost E V a n (.returned v) w' := by unfold CellsPost; rw [h]; exact ⟨⟨v, rfl, ho, hk⟩, hb⟩
theorem ramBad_step {a : Int} {k n : Nat} (h : ramOk ((a + k) % 65536)) (hk : k < n) : ramBad a k (n - k) = ramBad a (k + 1) (n - (k + 1)) := by
 obtain ⟨j, rfl⟩ : ∃ j, n = k + (j + 1) := ⟨n - k - 1, by omega⟩
 rw [show k + (j + 1) - k = j + 1 by omega, show k + (j + 1) - (k + 1) = j by omega]
 unfold ramBad
 rw [if_pos h]
 cases j <;> rfl
theorem ramBad_stop {a : Int} {k n : Nat} (h : ¬ ramOk ((a + k) % 65536)) (hk : k < n) : ramBad a k (n - k) = some ((a + k) % 65536) := by
 obtain ⟨j, rfl⟩ : ∃ j, n = k + (j + 1) := ⟨n - k - 1, by omega⟩
 rw [show k + (j + 1) - k = j + 1 by omega]
 unfold ramBad
 rw [if_neg h]
set_option maxRecDepth 8000 in
set_option maxHeartbeats 4000000 in
theorem cells_any {E : Env} {V : World} {m : Mach} {sv ov : Value} (h : MachAt E V m sv ov) (a : Int) (ha : OkU16 a) (n : Nat) (hn : n ≤ 2) : Calls Tryz.prog 100 #[.pointer (some ⟨E.B, 0, none⟩), .int .u16 a, .int .i64 (n : Int)] V (CellsPost E V a n) := by
 obtain ⟨i5, hi5, hz5, hs5, hb5⟩ : ∃ i5, Tryz.prog.info? 128 = some i5 ∧ i5.zero = some (.pointer none) ∧ i5.size = 1 ∧ i5.bytes = 8 := by
  have := info156
  cases h : Tryz.prog.info? 128 with
  | none => rw [h] at this; cases this
  | some x => rw [h] at this; simp at this; exact ⟨x, rfl, this⟩
 have KN := Lib.hid (And.intro hi5 (And.intro hz5 (And.intro hs5 hb5)))
 have H := Lib.hid h
 have HA := Lib.hid ha
 have HNN := Lib.hid hn
 have hw : IntKind.u16.wrap (n : Int) = n := by rw [IntKind.wrap_u16]; omega
 clear hi5 hz5 hs5 hb5 h ha hn
 go_enter Tryz.func100, Tryz.ntmps100
 go_wp2_with fail
 clear hw
 go_loopw [7, 11] (fun v i_ wr => ∃ k : Nat, k ≤ n ∧ i_ = .int .u16 k ∧ wr.ownsRow V.heap.size 128 1 v k (ptrs E a k) ∧ Below V.heap.size V wr ∧ ramBad a 0 n = ramBad a k (n - k) ∧ ∀ j : Nat, j < k → ramOk ((a + j) % 65536)) (fun _ i_ _ => n - (intOf i_).toNat)
 case atStart => exact ⟨0, by omega, rfl, World.ownsRow_nil _ _ _ _, Below.refl _ _, rfl, fun j hj => by omega⟩
 case round =>
  obtain ⟨k, hk, rfl, hown, hb, hbad, hall⟩ := hrel
  have KO := Lib.hid hown
  have KB := Lib.hid hb
  have KD := Lib.hid hbad
  have KAll := Lib.hid hall
  clear hown hb hbad hall
  by_cases hlt : k < n
  ·have b0 : decide ((k : Int) < (n : Int)) = true := decide_eq_true (by omega)
   have x1 : IntKind.u16.wrap ((k : Int) + 1) = (k : Int) + 1 := by rw [IntKind.wrap_u16]; have := HNN.out; omega
   have x2 : IntKind.u16.wrap (a + (k : Int)) = (a + k) % 65536 := by rw [IntKind.wrap_u16]
   obtain ⟨q, hq⟩ : ∃ q, (a + (k : Int)) % 65536 = q := ⟨_, rfl⟩
   rw [hq] at x2
   have hq0 : 0 ≤ q ∧ q < 65536 := by omega
   by_cases g1 : q < 16384
   ·have d1 : decide (q < 16384) = true := decide_eq_true g1
    have HR : Hid (ramBad a 0 n = some q) := Lib.hid (by rw [KD.out, ramBad_stop (by rw [hq]; unfold ramOk; omega) hlt, hq])
    clear g1 hq hq0
    go_wp2_with (go_at_call 34; refine (raise_any _ _ _).mono ?_; rintro e w' ⟨rfl, rfl⟩)
    exact panics rfl (cellsPost_err HR.out KB.out)
   ·have d1 : decide (q < 16384) = false := decide_eq_false g1
    by_cases g2 : 24576 ≤ q
    ·have d2 : decide (24576 ≤ q) = true := decide_eq_true g2
     have HR : Hid (ramBad a 0 n = some q) := Lib.hid (by rw [KD.out, ramBad_stop (by rw [hq]; unfold ramOk; omega) hlt, hq])
     clear g1 g2 hq hq0
     go_wp2_with (go_at_call 34; refine (raise_any _ _ _).mono ?_; rintro e w' ⟨rfl, rfl⟩)
     exact panics rfl (cellsPost_err HR.out KB.out)
    ·have d2 : decide (24576 ≤ q) = false := decide_eq_false g2
     have hok : ramOk ((a + k) % 65536) := by rw [hq]; unfold ramOk; omega
     have HR : Hid (ramBad a 0 n = ramBad a (k + 1) (n - (k + 1))) := Lib.hid (by rw [KD.out, ramBad_step hok hlt])
     obtain ⟨r, hr⟩ : ∃ r : Nat, q = 16384 + (r : Int) := ⟨(q - 16384).toNat, by omega⟩
     have hr8 : (r : Int) < 8192 := by omega
     have x3 : IntKind.u16.wrap (q - 16384) = (r : Int) := by rw [IntKind.wrap_u16]; omega
     have HP : Hid (ptrs E a (k + 1) = ptrs E a k ++ [.pointer (some ⟨E.ramB, r, none⟩)]) := Lib.hid (by rw [ptrs_step, hq, hr]; congr 5; omega)
     have HAll2 : Hid (∀ j : Nat, j < k + 1 → ramOk ((a + j) % 65536)) := Lib.hid fun j hj => by
      by_cases e : j = k
      ·subst e; exact hok
      ·exact KAll.out j (by omega)
     have hM := H.out.next KB.out
     have c23 := hM.cell 23 _ rfl
     have KS := Lib.hid KB.out.size
     clear g1 g2 hq hq0 hok hr hM
     go_wp2_with (at_builtin; refine Hid.out ?_)
     refine Lib.hid ?_
     refine wpList_append_own _ rfl _ _ 126 rfl V.heap.size 128 i5 (.pointer none) 1 8 Tryz.underlying126 KN.out.1 KN.out.2.1 KN.out.2.2.1 KN.out.2.2.2 rfl (by decide) _ _ _ rfl (own_next KO.out (below1 _ _)) _ _ _ [.pointer (some ⟨E.ramB, r, none⟩)] rfl rfl ?_ ?_ ?_ ?_ ?_ ?_
     ·intro j u hu
      cases j with
      | zero => simp at hu; subst hu; simp [go_sem]
      | succ j => simp at hu
     ·intro u hu; simp at hu; subst hu; rfl
     ·have := HNN.out; unfold maxLen; omega
     ·have := HNN.out; omega
     ·have := KS.out; simp; omega
     ·intro v2 w2 ho2 hg2 _
      have KO2 : Hid (w2.ownsRow V.heap.size 128 1 v2 (k + 1) (ptrs E a (k + 1))) := Lib.hid (by rw [HP.out]; exact ho2)
      have KB2 := Lib.hid (below_grown (below_alloc KB.out _) (by have := KS.out; simp; omega) hg2 (fun q hq => (KO.out.lt q hq).1))
      clear ho2 hg2
      go_wp2_with fail
      go_roundw
      case rel => exact ⟨k + 1, by omega, by go_num, KO2.out, KB2.out, HR.out, HAll2.out⟩
      case measure => simp [intOf]; omega
  ·obtain rfl : k = n := by omega
   have b0 : decide (((k : Nat) : Int) < (k : Int)) = false := decide_eq_false (by omega)
   have HR : Hid (ramBad a 0 k = none) := Lib.hid (by rw [KD.out, Nat.sub_self]; rfl)
   go_wp2_with fail
   go_ret
   exact cellsPost_ok HR.out KO.out KAll.out KB.out
end Go.Proofs.YtieaicdihingkaaGreat
namespace Go.Proofs.YtieaicdihingkaaGreat
set_option linter.unusedVariables false
set_option linter.unusedSimpArgs false
open Go.RowKit
def ramAt (m : Mach) (a : Int) (k : Nat) : Int := m.ram ((a + k) % 65536 - 16384).toNat
def rdRam (m : Mach) (a : Int) : Nat → Int
 | 0 => 0
 | 1 => ramAt m a 0
 | _ => ramAt m a 0 + ramAt m a 1 * 256
def LoadPost (m : Mach) (V : World) (a : Int) (n : Nat) (e : Ending) (w' : World) : Prop :=
 (match ramBad a 0 n with
  | some x => e = trapE 2 x
  | none => e = .returned (.int .u16 (rdRam m a n))) ∧ Below V.heap.size V w'
theorem loadPost_err {m : Mach} {V w' : World} {a x : Int} {n : Nat} (h : ramBad a 0 n = some x) (hb : Below V.heap.size V w') : LoadPost m V a n (trapE 2 x) w' := by unfold LoadPost; rw [h]; exact ⟨rfl, hb⟩
theorem loadPost_ok {m : Mach} {V w' : World} {a : Int} {n : Nat} (h : ramBad a 0 n = none) (hb : Below V.heap.size V w') : LoadPost m V a n (.returned (.int .u16 (rdRam m a n))) w' := by unfold LoadPost; rw [h]; exact ⟨rfl, hb⟩
theorem cells_no {E : Env} {V : World} {m : Mach} {sv ov : Value} (h : MachAt E V m sv ov) {a x : Int} (ha : OkU16 a) {n : Nat} (hn : n ≤ 2) (hc : ramBad a 0 n = some x) : Calls Tryz.prog 100 #[.pointer (some ⟨E.B, 0, none⟩), .int .u16 a, .int .i64 (n : Int)] V fun e w' => e = trapE 2 x ∧ Below V.heap.size V w' :=
 (cells_any h a ha n hn).mono fun e w' q => by unfold CellsPost at q; rw [hc] at q; exact q
theorem cells_yes {E : Env} {V : World} {m : Mach} {sv ov : Value} (h : MachAt E V m sv ov) {a : Int} (ha : OkU16 a) {n : Nat} (hn : n ≤ 2) (hc : ramBad a 0 n = none) : Calls Tryz.prog 100 #[.pointer (some ⟨E.B, 0, none⟩), .int .u16 a, .int .i64 (n : Int)] V fun e w' => ∃ p c, e = .returned (.slice p n c) ∧ Below V.heap.size V w' ∧ (∀ k : Nat, k < n → ramOk ((a + k) % 65536)) ∧ (n = 0 ∨ ∃ g, p = some ⟨g, 0, none⟩ ∧ g < w'.heap.size ∧ V.heap.size ≤ g ∧ ∀ k : Nat, k < n → w'.cell? ⟨g, k, none⟩ = some (.pointer (some ⟨E.ramB, ((a + k) % 65536 - 16384).toNat, none⟩))) :=
 (cells_any h a ha n hn).mono fun e w' q => by
  unfold CellsPost at q
  rw [hc] at q
  obtain ⟨⟨v, rfl, ho, hall⟩, hb⟩ := q
  obtain ⟨p, c, rfl, _, hp⟩ := own_slice ho
  refine ⟨p, c, rfl, hb, hall, hp.imp id fun ⟨g, e, hg, hbg, hcell⟩ => ⟨g, e, hg, hbg, fun k hk => (hcell k _ ?_).1⟩⟩
  unfold ptrs
  rw [List.getElem?_map, List.getElem?_range hk]
  rfl
theorem ramOk_lt {a : Int} (h : ramOk a) : (a - 16384).toNat < 8192 := by unfold ramOk at h; omega
theorem or_zero (x : Int) (h0 : 0 ≤ x) (h1 : x < 256) : bits .or .u16 0 x = x := by
 rw [u16_or 0 x (by omega) (by omega) h0 (by omega)]
 simp; omega
set_option maxRecDepth 8000 in
set_option maxHeartbeats 4000000 in
theorem load_any {E : Env} {V : World} {m : Mach} {sv ov : Value} (h : MachAt E V m sv ov) (a : Int) (ha : OkU16 a) (n : Nat) (hn : n ≤ 2) : Calls Tryz.prog 70 #[.pointer (some ⟨E.B, 0, none⟩), .int .u16 a, .int .i64 (n : Int)] V (LoadPost m V a n) := by
 have H := Lib.hid h
 have HNN := Lib.hid hn
 cases hc : ramBad a 0 n with
 | some x =>
  have HC := Lib.hid (cells_no h ha hn hc)
  have HR := Lib.hid hc
  clear h hc ha hn
  go_enter Tryz.func70, Tryz.ntmps70
  go_wp2_with (go_at_call 100; refine HC.out.mono ?_; rintro e w' ⟨rfl, hb⟩)
  exact panics rfl (loadPost_err HR.out hb)
 | none =>
  have HC := Lib.hid (cells_yes h ha hn hc)
  have HR := Lib.hid hc
  clear h hc ha hn
  go_enter Tryz.func70, Tryz.ntmps70
  go_wp2_with fail
  refine HC.out.mono ?_
  rintro e w1 ⟨p, c, rfl, hb, hall, hp⟩
  have HB1 := Lib.hid hb
  have HAll := Lib.hid hall
  have HP := Lib.hid hp
  clear hb hall hp HC
  go_wp2_with fail
  go_loopw [6, 14] (fun v i_ wr => ∃ k : Nat, k ≤ n ∧ i_ = .int .i64 k ∧ v = .int .u16 (rdRam m a k) ∧ w1 = wr) (fun _ i_ _ => n - (intOf i_).toNat)
  case atStart => exact ⟨0, by omega, rfl, rfl, rfl⟩
  case round =>
   obtain ⟨k, hk, rfl, rfl, rfl⟩ := hrel
   by_cases hlt : k < n
   ·have b0 : decide ((k : Int) < (n : Int)) = true := decide_eq_true (by omega)
    have d5 : (k : Int) < (n : Int) := by omega
    obtain ⟨g, rfl, hg, hbg, hcell⟩ := HP.out.resolve_left (by omega)
    have hck := hcell k hlt
    have hrk := (H.out.next HB1.out).ramC _ (ramOk_lt (HAll.out k hlt))
    have hrc := hrk.1
    have hbd := H.out.ok.ram ((a + k) % 65536 - 16384).toNat
    change _ = some (Value.int .u8 (ramAt m a k)) at hrc
    change 0 ≤ ramAt m a k ∧ ramAt m a k < 256 at hbd
    generalize ((a + (k : Int)) % 65536 - 16384).toNat = q at *
    clear hcell hbg hg hrk
    rcases (show k = 0 ∨ k = 1 by have := HNN.out; omega) with rfl | rfl
    ·have HO : Hid (bits .or .u16 (rdRam m a 0) (ramAt m a 0) = rdRam m a 1) := Lib.hid (or_zero _ hbd.1 hbd.2)
     have hx : IntKind.u16.wrap (ramAt m a 0) = ramAt m a 0 := by rw [IntKind.wrap_u16]; omega
     generalize rdRam m a 0 = y0 at *
     generalize ramAt m a 0 = y at *
     have ho := HO.out
     clear hbd
     go_wp2_with fail
     go_roundw
     case rel => exact ⟨1, by omega, by go_num, rfl, by first | rfl | trivial⟩
     case measure => simp [intOf]; omega
    ·have hbd0 := H.out.ok.ram ((a + (0 : Nat)) % 65536 - 16384).toNat
     change 0 ≤ ramAt m a 0 ∧ ramAt m a 0 < 256 at hbd0
     have HO : Hid (bits .or .u16 (rdRam m a 1) (ramAt m a 1 * 256) = rdRam m a 2) := Lib.hid (or_bytes _ _ hbd0.1 hbd0.2 hbd.1 hbd.2)
     have hx : IntKind.u16.wrap (ramAt m a 1) = ramAt m a 1 := by rw [IntKind.wrap_u16]; omega
     have hx2 : IntKind.u16.wrap (ramAt m a 1 * 256) = ramAt m a 1 * 256 := by rw [IntKind.wrap_u16]; omega
     generalize rdRam m a 1 = y0 at *
     generalize ramAt m a 1 = y at *
     have ho := HO.out
     clear hbd hbd0
     go_wp2_with fail
     go_roundw
     case rel => exact ⟨2, by omega, by go_num, rfl, by first | rfl | trivial⟩
     case measure => simp [intOf]; omega
   ·obtain rfl : k = n := by omega
    have b0 : decide (((k : Nat) : Int) < (k : Int)) = false := decide_eq_false (by omega)
    go_wp2_with fail
    go_ret
    exact loadPost_ok HR.out HB1.out
def wrRam (r : Nat → Int) (a v : Int) : Nat → Nat → Int
 | 0 => r
 | 1 => setRam r ((a + (0 : Nat)) % 65536 - 16384).toNat (v % 256)
 | _ => setRam (setRam r ((a + (0 : Nat)) % 65536 - 16384).toNat (v % 256)) ((a + (1 : Nat)) % 65536 - 16384).toNat (v / 256)
def storeM (m : Mach) (a : Int) (n : Nat) (v : Int) : Except (Int × Int) Mach :=
 match ramBad a 0 n with
 | some x => .error (2, x)
 | none => .ok { m with ram := wrRam m.ram a v n }
theorem own_keeps {base b e n : Nat} {V W : World} {v : Value} {xs : List Value} (h : V.ownsRow b e 1 v n xs) (k : Keeps base V W) (h96 : e ≠ 63) (h5 : e ≠ 5) (h22 : e ≠ 22) (h54 : e ≠ 51) : W.ownsRow b e 1 v n xs := by
 refine ⟨h.1, ?_⟩
 rcases h.2 with hn | ⟨g, cap, cur, rfl, hb, hg, rest⟩
 ·exact .inl hn
 ·exact .inr ⟨g, cap, cur, rfl, hb, k.blk g _ hg (.inr ⟨_, _, _, rfl, h96, h5, h22, h54⟩), rest⟩
theorem cells_own {E : Env} {V : World} {m : Mach} {sv ov : Value} (h : MachAt E V m sv ov) {a : Int} (ha : OkU16 a) {n : Nat} (hn : n ≤ 2) (hc : ramBad a 0 n = none) : Calls Tryz.prog 100 #[.pointer (some ⟨E.B, 0, none⟩), .int .u16 a, .int .i64 (n : Int)] V fun e w' => ∃ p c, e = .returned (.slice p n c) ∧ w'.ownsRow V.heap.size 128 1 (.slice p n c) n (ptrs E a n) ∧ Below V.heap.size V w' ∧ (∀ k : Nat, k < n → ramOk ((a + k) % 65536)) :=
 (cells_any h a ha n hn).mono fun e w' q => by
  unfold CellsPost at q
  rw [hc] at q
  obtain ⟨⟨v, rfl, ho, hall⟩, hb⟩ := q
  obtain ⟨p, c, rfl, _, hp⟩ := own_slice ho
  exact ⟨p, c, rfl, ho, hb, hall⟩
theorem ptr_cell {E : Env} {V W : World} {a : Int} {n b c : Nat} {p : Option Addr} (h : W.ownsRow b 128 1 (.slice p n c) n (ptrs E a n)) {k : Nat} (hk : k < n) : ∃ g, p = some ⟨g, 0, none⟩ ∧ W.cell? ⟨g, k, none⟩ = some (.pointer (some ⟨E.ramB, ((a + k) % 65536 - 16384).toNat, none⟩)) := by
 obtain ⟨p', c', e, _, hp⟩ := own_slice h
 injection e with e1 e2 e3
 subst e1
 obtain ⟨g, rfl, hg, hbg, hcell⟩ := hp.resolve_left (by omega)
 refine ⟨g, rfl, (hcell k _ ?_).1⟩
 unfold ptrs
 rw [List.getElem?_map, List.getElem?_range hk]
 rfl
set_option maxRecDepth 8000 in
set_option maxHeartbeats 4000000 in
theorem store_any {E : Env} {V : World} {m : Mach} {sv ov : Value} (h : MachAt E V m sv ov) (a v : Int) (ha : OkU16 a) (hv : OkU16 v) (n : Nat) (hn : n ≤ 2) : Calls Tryz.prog 71 #[.pointer (some ⟨E.B, 0, none⟩), .int .u16 a, .int .i64 (n : Int), .int .u16 v] V (Done E V m sv ov (storeM m a n v)) := by
 have H := Lib.hid h
 have HNN := Lib.hid hn
 have HV := Lib.hid hv
 cases hc : ramBad a 0 n with
 | some x =>
  have HC := Lib.hid (cells_no h ha hn hc)
  have HR : Hid (storeM m a n v = .error (2, x)) := Lib.hid (by unfold storeM; rw [hc])
  clear h hc ha hn hv
  go_enter Tryz.func71, Tryz.ntmps71
  go_wp2_with (go_at_call 100; refine HC.out.mono ?_; rintro e w' ⟨rfl, hb⟩)
  exact panics rfl (done_err HR.out (trapped_below H.out hb))
 | none =>
  have HC := Lib.hid (cells_own h ha hn hc)
  have HR : Hid (storeM m a n v = .ok { m with ram := wrRam m.ram a v n }) := Lib.hid (by unfold storeM; rw [hc])
  clear h hc ha hn hv
  go_enter Tryz.func71, Tryz.ntmps71
  go_wp2_with fail
  refine HC.out.mono ?_
  rintro e w1 ⟨p, c, rfl, ho, hb, hall⟩
  have HB1 := Lib.hid hb
  have HAll := Lib.hid hall
  have HP := Lib.hid ho
  clear hb hall ho HC
  go_wp2_with fail
  go_loopw [15] (fun i_ wr => ∃ k : Nat, k ≤ n ∧ i_ = .int .i64 k ∧ MachAt E wr { m with ram := wrRam m.ram a v k } sv ov ∧ Keeps E.base w1 wr) (fun i_ _ => n - (intOf i_).toNat)
  case atStart => exact ⟨0, by omega, rfl, H.out.next HB1.out, Keeps.refl _ _⟩
  case round =>
   obtain ⟨k, hk, rfl, hM, hK⟩ := hrel
   by_cases hlt : k < n
   ·have b0 : decide ((k : Int) < (n : Int)) = true := decide_eq_true (by omega)
    have d5 : (k : Int) < (n : Int) := by omega
    obtain ⟨g, rfl, hck⟩ := ptr_cell (V := w1) (own_keeps HP.out hK (by decide) (by decide) (by decide) (by decide)) hlt
    have hlt8 := ramOk_lt (HAll.out k hlt)
    obtain ⟨hrc, hrz⟩ := hM.ramC _ hlt8
    have HM := Lib.hid hM
    have HK := Lib.hid hK
    have hvb := HV.out
    unfold OkU16 at hvb
    clear hM hK
    rcases (show k = 0 ∨ k = 1 by have := HNN.out; omega) with rfl | rfl
    ·have hx : IntKind.u8.wrap v = v % 256 := by rw [IntKind.wrap_u8]
     have HM2 : Hid (MachAt E (wr.setCell ⟨E.ramB, ((a + (0 : Nat)) % 65536 - 16384).toNat, none⟩ (.int .u8 (v % 256))) { m with ram := wrRam m.ram a v 1 } sv ov) := Lib.hid (HM.out.poke _ (v % 256) hlt8 (by omega) (by omega))
     have HK2 := Lib.hid (HK.out.trans (HM.out.pokeK ((a + (0 : Nat)) % 65536 - 16384).toNat (.int .u8 (v % 256))))
     generalize ((a + (0 : Nat)) % 65536 - 16384).toNat = q at hck hrc hrz HM2 HK2
     clear hvb hlt8
     go_wp2_with fail
     go_roundw
     case rel => exact ⟨1, by omega, by go_num, HM2.out, HK2.out⟩
     case measure => simp [intOf]; omega
    ·have hx : IntKind.u8.wrap (v / 256) = v / 256 := by rw [IntKind.wrap_u8]; omega
     have HM2 : Hid (MachAt E (wr.setCell ⟨E.ramB, ((a + (1 : Nat)) % 65536 - 16384).toNat, none⟩ (.int .u8 (v / 256))) { m with ram := wrRam m.ram a v 2 } sv ov) := Lib.hid (HM.out.poke _ (v / 256) hlt8 (by omega) (by omega))
     have HK2 := Lib.hid (HK.out.trans (HM.out.pokeK ((a + (1 : Nat)) % 65536 - 16384).toNat (.int .u8 (v / 256))))
     generalize ((a + (1 : Nat)) % 65536 - 16384).toNat = q at hck hrc hrz HM2 HK2
     clear hvb hlt8
     go_wp2_with fail
     go_roundw
     case rel => exact ⟨2, by omega, by go_num, HM2.out, HK2.out⟩
     case measure => simp [intOf]; omega
   ·obtain rfl : k = n := by omega
    have b0 : decide (((k : Nat) : Int) < (k : Int)) = false := decide_eq_false (by omega)
    have HM := Lib.hid hM
    have HK := Lib.hid hK
    clear hM hK
    go_wp2_with fail
    exact bodyPost_ret (by simp [results, Tryz.results71]) rfl (done_ok HR.out ⟨⟨_, _, HM.out⟩, (Keeps.of_below HB1.out).trans HK.out⟩)
end Go.Proofs.YtieaicdihingkaaGreat
namespace Go.Proofs.YtieaicdihingkaaGreat
set_option linter.unusedVariables false
set_option linter.unusedSimpArgs false
open Go.RowKit
def romOk (E : Env) (bank o : Int) : Prop := o < 4096 ∧ bank < E.banks.length ∧ o < (bankAt E.banks bank).size
instance (E : Env) (bank o : Int) : Decidable (romOk E bank o) := by unfold romOk; infer_instance
def romAt (E : Env) (bank a : Int) (k : Nat) : Int := byteI (bankAt E.banks bank) ((a + k) % 65536).toNat
def conBad (E : Env) (bank a : Int) : Nat → Nat → Option Int
 | _, 0 => none
 | k, n + 1 => if romOk E bank ((a + k) % 65536) then conBad E bank a (k + 1) n else some ((a + k) % 65536)
def rdRom (E : Env) (bank a : Int) : Nat → Int
 | 0 => 0
 | 1 => romAt E bank a 0
 | _ => romAt E bank a 0 + romAt E bank a 1 * 256
theorem conBad_step {E : Env} {bank a : Int} {k n : Nat} (h : romOk E bank ((a + k) % 65536)) (hk : k < n) : conBad E bank a k (n - k) = conBad E bank a (k + 1) (n - (k + 1)) := by
 obtain ⟨j, rfl⟩ : ∃ j, n = k + (j + 1) := ⟨n - k - 1, by omega⟩
 rw [show k + (j + 1) - k = j + 1 by omega, show k + (j + 1) - (k + 1) = j by omega]
 unfold conBad
 rw [if_pos h]
 cases j <;> rfl
theorem conBad_stop {E : Env} {bank a : Int} {k n : Nat} (h : ¬ romOk E bank ((a + k) % 65536)) (hk : k < n) : conBad E bank a k (n - k) = some ((a + k) % 65536) := by
 obtain ⟨j, rfl⟩ : ∃ j, n = k + (j + 1) := ⟨n - k - 1, by omega⟩
 rw [show k + (j + 1) - k = j + 1 by omega]
 unfold conBad
 rw [if_neg h]
def ConPost (E : Env) (V : World) (bank a : Int) (n : Nat) (e : Ending) (w' : World) : Prop :=
 (match conBad E bank a 0 n with
  | some x => e = trapE 2 x
  | none => e = .returned (.int .u16 (rdRom E bank a n))) ∧ Below V.heap.size V w'
theorem conPost_err {E : Env} {V w' : World} {bank a x : Int} {n : Nat} (h : conBad E bank a 0 n = some x) (hb : Below V.heap.size V w') : ConPost E V bank a n (trapE 2 x) w' := by unfold ConPost; rw [h]; exact ⟨rfl, hb⟩
theorem conPost_ok {E : Env} {V w' : World} {bank a : Int} {n : Nat} (h : conBad E bank a 0 n = none) (hb : Below V.heap.size V w') : ConPost E V bank a n (.returned (.int .u16 (rdRom E bank a n))) w' := by unfold ConPost; rw [h]; exact ⟨rfl, hb⟩
set_option maxRecDepth 8000 in
set_option maxHeartbeats 4000000 in
theorem constant_any {E : Env} {V : World} {m : Mach} {sv ov : Value} (h : MachAt E V m sv ov) (bank a : Int) (hbk : 0 ≤ bank) (ha : OkU16 a) (n : Nat) (hn : n ≤ 2) : Calls Tryz.prog 72 #[.pointer (some ⟨E.B, 0, none⟩), .int .i64 bank, .int .u16 a, .int .i64 (n : Int)] V (ConPost E V bank a n) := by
 have H := Lib.hid h
 have HA := Lib.hid ha
 have HNN := Lib.hid hn
 have HBK := Lib.hid hbk
 have hw : IntKind.u16.wrap (n : Int) = n := by rw [IntKind.wrap_u16]; omega
 clear h ha hn hbk
 go_enter Tryz.func72, Tryz.ntmps72
 go_wp2_with fail
 clear hw
 go_loopw [8, 13] (fun v i_ wr => ∃ k : Nat, k ≤ n ∧ i_ = .int .u16 k ∧ v = .int .u16 (rdRom E bank a k) ∧ V = wr ∧ conBad E bank a 0 n = conBad E bank a k (n - k)) (fun _ i_ _ => n - (intOf i_).toNat)
 case atStart => exact ⟨0, by omega, rfl, rfl, rfl, rfl⟩
 case round =>
  obtain ⟨k, hk, rfl, rfl, rfl, hbad⟩ := hrel
  have KD := Lib.hid hbad
  clear hbad
  by_cases hlt : k < n
  ·have b0 : decide ((k : Int) < (n : Int)) = true := decide_eq_true (by omega)
   have x1 : IntKind.u16.wrap ((k : Int) + 1) = (k : Int) + 1 := by rw [IntKind.wrap_u16]; have := HNN.out; omega
   obtain ⟨q, hq⟩ : ∃ q : Nat, (a + (k : Int)) % 65536 = q := ⟨((a + k) % 65536).toNat, by omega⟩
   have x2 : IntKind.u16.wrap (a + (k : Int)) = q := by rw [IntKind.wrap_u16]; exact hq
   have hq0 : (q : Int) < 65536 := by omega
   have x5 : IntKind.i64.wrap (q : Int) = q := IntWalk.i64_in _ (by omega)
   have c0 := H.out.cell 0 _ rfl
   by_cases g1 : 4096 ≤ (q : Int)
   ·have d1 : decide (4096 ≤ (q : Int)) = true := decide_eq_true g1
    have HR : Hid (conBad E bank a 0 n = some (q : Int)) := Lib.hid (by rw [KD.out, conBad_stop (by rw [hq]; unfold romOk; omega) hlt, hq])
    clear g1 hq hq0
    go_wp2_with (go_at_call 34; refine (raise_any _ _ _).mono ?_; rintro e w' ⟨rfl, rfl⟩)
    exact panics rfl (conPost_err HR.out (Below.refl _ _))
   ·have d1 : decide (4096 ≤ (q : Int)) = false := decide_eq_false g1
    by_cases g2 : (E.banks.length : Int) ≤ bank
    ·have d2 : decide ((E.banks.length : Int) ≤ bank) = true := decide_eq_true g2
     have HR : Hid (conBad E bank a 0 n = some (q : Int)) := Lib.hid (by rw [KD.out, conBad_stop (by rw [hq]; unfold romOk; omega) hlt, hq])
     clear g1 g2 hq hq0
     go_wp2_with (go_at_call 34; refine (raise_any _ _ _).mono ?_; rintro e w' ⟨rfl, rfl⟩)
     exact panics rfl (conPost_err HR.out (Below.refl _ _))
    ·have d2 : decide ((E.banks.length : Int) ≤ bank) = false := decide_eq_false g2
     have hb0 := HBK.out
     obtain ⟨s, hs⟩ := at_some E.banks bank.toNat (by omega)
     have hbs : bankAt E.banks bank = s := by unfold bankAt; rw [hs]; rfl
     obtain ⟨Bk, hpb, hBk, hcs, hsz⟩ := H.out.strs bank.toNat s hs
     have d5 : bank < (E.banks.length : Int) := by omega
     by_cases g3 : (s.size : Int) ≤ (q : Int)
     ·have d3 : decide (s.size ≤ q) = true := decide_eq_true (by omega)
      have HR : Hid (conBad E bank a 0 n = some (q : Int)) := Lib.hid (by rw [KD.out, conBad_stop (by rw [hq]; unfold romOk; rw [hbs]; omega) hlt, hq])
      clear g1 g2 g3 hq hq0 hsz hs hbs
      rw [hpb] at c0
      go_wp2_with (go_at_call 34; refine (raise_any _ _ _).mono ?_; rintro e w' ⟨rfl, rfl⟩)
      exact panics rfl (conPost_err HR.out (Below.refl _ _))
     ·have d3 : decide (s.size ≤ q) = false := decide_eq_false (by omega)
      have hok : romOk E bank ((a + k) % 65536) := by rw [hq]; unfold romOk; rw [hbs]; omega
      have HR : Hid (conBad E bank a 0 n = conBad E bank a (k + 1) (n - (k + 1))) := Lib.hid (by rw [KD.out, conBad_step hok hlt])
      have d6 : q < s.size := by omega
      have d7 : (q : Int) < (s.size : Int) := by omega
      have hx := byteI_at s q d6
      have hbd := byteI_bd s q
      have hrm : romAt E bank a k = byteI s q := by unfold romAt; rw [hbs, hq]; rfl
      have hrm0 := byteI_bd (bankAt E.banks bank) ((a + (0 : Nat)) % 65536).toNat
      change 0 ≤ romAt E bank a 0 ∧ romAt E bank a 0 < 256 at hrm0
      rw [← hrm] at hbd hx
      rw [hpb] at c0
      clear g1 g2 g3 hq hsz hs hbs hok hq0
      rcases (show k = 0 ∨ k = 1 by have := HNN.out; omega) with rfl | rfl
      ·have HO : Hid (bits .or .u16 (rdRom E bank a 0) (romAt E bank a 0) = rdRom E bank a 1) := Lib.hid (or_zero _ hbd.1 hbd.2)
       have hx3 : IntKind.u16.wrap (romAt E bank a 0) = romAt E bank a 0 := by rw [IntKind.wrap_u16]; omega
       have x2' : IntKind.u16.wrap a = q := by simpa using x2
       clear hrm x2
       generalize rdRom E bank a 0 = y0 at *
       generalize romAt E bank a 0 = y at *
       have ho := HO.out
       clear hbd hrm0
       go_wp2_with fail
       go_roundw
       case rel => exact ⟨1, by omega, by go_num, rfl, by first | rfl | trivial, HR.out⟩
       case measure => simp [intOf]; omega
      ·have HO : Hid (bits .or .u16 (rdRom E bank a 1) (romAt E bank a 1 * 256) = rdRom E bank a 2) := Lib.hid (or_bytes _ _ hrm0.1 hrm0.2 hbd.1 hbd.2)
       have hx3 : IntKind.u16.wrap (romAt E bank a 1) = romAt E bank a 1 := by rw [IntKind.wrap_u16]; omega
       have hx2 : IntKind.u16.wrap (romAt E bank a 1 * 256) = romAt E bank a 1 * 256 := by rw [IntKind.wrap_u16]; omega
       have x2' : IntKind.u16.wrap (a + 1) = q := by simpa using x2
       clear hrm x2
       generalize rdRom E bank a 1 = y0 at *
       generalize romAt E bank a 1 = y at *
       have ho := HO.out
       clear hbd hrm0
       go_wp2_with fail
       go_roundw
       case rel => exact ⟨2, by omega, by go_num, rfl, by first | rfl | trivial, HR.out⟩
       case measure => simp [intOf]; omega
  ·obtain rfl : k = n := by omega
   have b0 : decide (((k : Nat) : Int) < (k : Int)) = false := decide_eq_false (by omega)
   have HR : Hid (conBad E bank a 0 k = none) := Lib.hid (by rw [KD.out, Nat.sub_self]; rfl)
   go_wp2_with fail
   go_ret
   exact conPost_ok HR.out (Below.refl _ _)
end Go.Proofs.YtieaicdihingkaaGreat
