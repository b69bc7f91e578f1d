/- The reference's machine, as a plain state; fail, push, pop, in, slot. -/
import Derived.Test.YtieaicdihingkaaGreatR4
import Derived.Deep.Cut
namespace Go.Proofs.YtieaicdihingkaaGreat
set_option linter.unusedVariables false
set_option linter.unusedSimpArgs false
open Go.RowKit
/-- The reference's machine: the state, and the trap that was noted. -/
structure RSt where
 m : Mach
 k : Int
 i : Int
/-- All blocks below b0, and all others but those of the machine's kinds, are as they were. -/
def Kz (b0 : Nat) (U V : World) : Prop := U.heap.size ≤ V.heap.size ∧ (∀ k, k < U.heap.size → (k < b0 ∨ ∀ c t f, U.heap[k]? = some (.cells c t f) → t ≠ 59 ∧ t ≠ 5 ∧ t ≠ 22 ∧ t ≠ 51) → V.heap[k]? = U.heap[k]?) ∧ V.os = U.os ∧ V.tape = U.tape ∧ V.output = U.output
theorem Kz.refl (b0 : Nat) (U : World) : Kz b0 U U := ⟨Nat.le_refl _, fun _ _ _ => rfl, rfl, rfl, rfl⟩
theorem Kz.next {b0 : Nat} {U V W : World} (h : Kz b0 U V) (hb : Below V.heap.size V W) : Kz b0 U W :=
 ⟨Nat.le_trans h.1 hb.size, fun k hk hc => (hb.block k (Nat.lt_of_lt_of_le hk h.1)).trans (h.2.1 k hk hc), hb.os.trans h.2.2.1, hb.tape.trans h.2.2.2.1, hb.output.trans h.2.2.2.2⟩
theorem Kz.trans {b0 : Nat} {U V W : World} (h : Kz b0 U V) (k : Kz b0 V W) : Kz b0 U W :=
 ⟨Nat.le_trans h.1 k.1, fun j hj hc => by
  have h1 := h.2.1 j hj hc
  refine (k.2.1 j (Nat.lt_of_lt_of_le hj h.1) (hc.imp id fun h9 c t f e => h9 c t f (h1.symm.trans e))).trans h1, k.2.2.1.trans h.2.2.1, k.2.2.2.1.trans h.2.2.2.1, k.2.2.2.2.trans h.2.2.2.2⟩
theorem Kz.ne {b0 : Nat} {U V : World} (h : Kz b0 U V) {q : Nat} {c : Array Value} {t : TypeId} {f : Nat × Nat} (hq : V.heap[q]? = some (.cells c t f)) (hl : b0 ≤ q) (ht : t = 59 ∨ t = 5 ∨ t = 22 ∨ t = 51) {k : Nat} (hk : k < U.heap.size) (hc : k < b0 ∨ ∀ c t f, U.heap[k]? = some (.cells c t f) → t ≠ 59 ∧ t ≠ 5 ∧ t ≠ 22 ∧ t ≠ 51) : k ≠ q := fun e => by
 subst e
 have h1 := h.2.1 k hk hc
 rcases hc with h9 | h9
 ·omega
 ·have := h9 c t f (h1.symm.trans hq)
  rcases ht with rfl | rfl | rfl | rfl <;> simp at this
theorem Kz.set {b0 : Nat} {U V W : World} (h : Kz b0 U V) {q j : Nat} {c : Array Value} {t : TypeId} {f : Nat × Nat} {v : Value} (hq : V.heap[q]? = some (.cells c t f)) (hl : b0 ≤ q) (ht : t = 59 ∨ t = 5 ∨ t = 22 ∨ t = 51) (e : V.setCell ⟨q, j, none⟩ v = W) : Kz b0 U W := by
 subst e
 exact ⟨by simpa using h.1, fun k hk hc => (Below.heap_setCell _ _ _ _ (h.ne hq hl ht hk hc)).trans (h.2.1 k hk hc), h.2.2⟩
theorem Kz.grown {b0 : Nat} {U V W : World} (h : Kz b0 U V) {row : Option Nat} (hg : V.grownBy W row) (hr : ∀ q, row = some q → b0 ≤ q ∧ ∃ c f, V.heap[q]? = some (.cells c 22 f)) : Kz b0 U W := by
 refine ⟨Nat.le_trans h.1 hg.size, fun k hk hc => (hg.block k (Nat.lt_of_lt_of_le hk h.1) fun e => ?_).trans (h.2.1 k hk hc), hg.os.trans h.2.2.1, hg.tape.trans h.2.2.2.1, hg.output.trans h.2.2.2.2⟩
 obtain ⟨hl, c, f, hq⟩ := hr k e.symm
 exact h.ne hq hl (.inr (.inr (.inl rfl))) hk hc rfl
/-- It lies in memory from b0 on; of U all is kept that is not the machine's. -/
def RM (b0 : Nat) (U : World) (E : Env) (B g : Nat) (s : RSt) (V : World) : Prop := (∃ sv ov, RefAt b0 E B g s.m sv ov s.k s.i V) ∧ Kz b0 U V
theorem Kz.cell {b0 : Nat} {U V : World} (h : Kz b0 U V) {q j : Nat} {v : Value} (hq : q < b0) (hc : U.cell? ⟨q, j, none⟩ = some v) : V.cell? ⟨q, j, none⟩ = some v := by
 have hlt : q < U.heap.size := by
  refine Nat.lt_of_not_le fun hle => ?_
  unfold World.cell? at hc
  rw [Array.getElem?_eq_none hle] at hc
  simp at hc
 have h9 := h.2.1 q hlt (.inl hq)
 unfold World.cell? at hc ⊢
 simp only at hc ⊢
 rw [h9]
 exact hc
theorem RM.over {b0 : Nat} {U V : World} {E : Env} {B g : Nat} {s : RSt} (h : RM b0 U E B g s V) : RM b0 V E B g s V := ⟨h.1, Kz.refl _ _⟩
theorem RM.next {b0 : Nat} {U V W : World} {E : Env} {B g : Nat} {s : RSt} (h : RM b0 U E B g s V) (hb : Below V.heap.size V W) : RM b0 U E B g s W :=
 ⟨h.1.imp fun sv h => h.imp fun ov h => h.next hb, h.2.next hb⟩
theorem RM.cell {b0 : Nat} {U V : World} {E : Env} {B g : Nat} {s : RSt} (h : RM b0 U E B g s V) (j : Nat) (v : Value) (hk : ∀ sv ov, (rcells E s.m g sv ov s.k s.i)[j]? = some v) : V.cell? ⟨B, j, none⟩ = some v := by
 obtain ⟨⟨sv, ov, h⟩, _⟩ := h
 exact h.cell j v (hk sv ov)
theorem RM.lt {b0 : Nat} {U V : World} {E : Env} {B g : Nat} {s : RSt} (h : RM b0 U E B g s V) : B < V.heap.size := by
 obtain ⟨⟨sv, ov, h⟩, _⟩ := h
 exact at_lt h.blk
theorem RM.low {b0 : Nat} {U V : World} {E : Env} {B g : Nat} {s : RSt} (h : RM b0 U E B g s V) : b0 ≤ B := by
 obtain ⟨⟨sv, ov, h⟩, _⟩ := h
 exact h.low.1
theorem RM.frz {b0 : Nat} {U V : World} {E : Env} {B g : Nat} {s : RSt} (h : RM b0 U E B g s V) (j : Nat) : V.frozen? ⟨B, j, none⟩ = false := by
 obtain ⟨⟨sv, ov, h⟩, _⟩ := h
 exact h.frz j
theorem RM.put {b0 : Nat} {U V W : World} {E : Env} {B g : Nat} {s s' : RSt} (h : RM b0 U E B g s V) (j : Nat) (v : Value) (e : V.setCell ⟨B, j, none⟩ v = W) (hc : ∀ sv ov, rcells E s'.m g sv ov s'.k s'.i = (rcells E s.m g sv ov s.k s.i).set j v) (hr : s'.m.ram = s.m.ram) (hs : s'.m.st = s.m.st) (ho : s'.m.out = s.m.out) : RM b0 U E B g s' W := by
 obtain ⟨⟨sv, ov, h⟩, hb⟩ := h
 exact ⟨⟨sv, ov, h.put j v e (hc sv ov) hr (by rw [hs]; exact h.st) (by rw [ho]; exact h.out)⟩, hb.set h.blk h.low.1 (.inl rfl) e⟩
/-- A store of another stack. -/
theorem RM.putSt {b0 : Nat} {U V W : World} {E : Env} {B g : Nat} {s : RSt} {sv' : Value} {l : List Int} (h : RM b0 U E B g s V) (e : V.setCell ⟨B, 24, none⟩ sv' = W) (hs : V.ownsRow b0 22 1 sv' l.length (l.map (Value.int .u16))) : RM b0 U E B g { s with m := setSt s.m l } W := by
 obtain ⟨⟨sv, ov, h⟩, hb⟩ := h
 exact ⟨⟨sv', ov, h.put 24 sv' e rfl rfl hs h.out⟩, hb.set h.blk h.low.1 (.inl rfl) e⟩
theorem RM.stack {b0 : Nat} {U V : World} {E : Env} {B g : Nat} {s : RSt} (h : RM b0 U E B g s V) : ∃ p c, V.cell? ⟨B, 24, none⟩ = some (.slice p s.m.st.length c) ∧ V.ownsRow b0 22 1 (.slice p s.m.st.length c) s.m.st.length (s.m.st.map (Value.int .u16)) := by
 obtain ⟨⟨sv, ov, h⟩, _⟩ := h
 obtain ⟨p, c, rfl⟩ := own_slice2 h.st
 exact ⟨p, c, h.cell 24 _ rfl, h.st⟩
theorem own_one (W : World) (x : Int) : (W.alloc (.cells #[.int .u16 x] 22)).ownsRow W.heap.size 22 1 (.slice (some ⟨W.heap.size, 0, none⟩) 1 1) 1 [.int .u16 x] :=
 ⟨by simp, .inr ⟨W.heap.size, 1, _, rfl, Nat.le_refl _, alloc_at W _, Nat.le_refl _, by decide, by simp, by simp⟩⟩
theorem kinds_ap {V : World} {b1 b2 e1 e2 s1 s2 n1 n2 : Nat} {v u : Value} {xs ys : List Value} (h1 : V.ownsRow b1 e1 s1 v n1 xs) (h2 : V.ownsRow b2 e2 s2 u n2 ys) (he : e1 ≠ e2) : v.ownBlock = none ∨ v.ownBlock ≠ u.ownBlock := by
 cases e : v.ownBlock with
 | none => exact .inl rfl
 | some q =>
  refine .inr fun h => ?_
  obtain ⟨_, c, f, hc⟩ := own_kind h1 q e
  obtain ⟨_, c', f', hc'⟩ := own_kind h2 q h.symm
  rw [hc] at hc'
  injection hc' with hc'
  injection hc' with _ hc'
  exact he hc'
/-- An append to the stack: what its store leaves. -/
theorem RM.grow {b0 : Nat} {U V W9 : World} {E : Env} {B g : Nat} {s : RSt} {sv v9 : Value} {n : Nat} {xs : List Value} {l : List Int} (h : RM b0 U E B g s V) (hown : V.ownsRow b0 22 1 sv n xs) (hc : V.cell? ⟨B, 24, none⟩ = some sv) (hown9 : W9.ownsRow b0 22 1 v9 l.length (l.map (Value.int .u16))) (hg : V.grownBy W9 sv.ownBlock) :
  (∃ u, W9.cell? ⟨B, 24, none⟩ = some u) ∧ W9.frozen? ⟨B, 24, none⟩ = false ∧ ∀ W, W9.setCell ⟨B, 24, none⟩ v9 = W → RM b0 U E B g { s with m := setSt s.m l } W := by
 obtain ⟨⟨sv', ov, hr⟩, hb⟩ := h
 obtain rfl : sv' = sv := by
  have h9 := hr.cell 24 sv' rfl
  rw [hc] at h9
  injection h9 with h9
  exact h9.symm
 have ne : ∀ q, sv'.ownBlock = some q → ∃ c f, V.heap[q]? = some (.cells c 22 f) := fun q e => (own_kind hown q e).2
 have hB : some B ≠ sv'.ownBlock := fun e => by
  obtain ⟨c, f, hk⟩ := ne B e.symm
  rw [hr.blk] at hk
  simp at hk
 obtain ⟨cur, r1, r2, r3⟩ := hr.ram
 have hG : some g ≠ sv'.ownBlock := fun e => by
  obtain ⟨c, f, hk⟩ := ne g e.symm
  rw [r1] at hk
  simp at hk
 have hb9 := (hg.block B (at_lt hr.blk) hB).trans hr.blk
 have hg9 := (hg.block g (at_lt r1) hG).trans r1
 have ho9 := hr.out.kept hg (kinds_ap hr.out hown (by decide))
 refine ⟨⟨_, Lib.cell_of_heap hb9 24⟩, at_fr hb9 24, fun W e => ⟨⟨v9, ov, ⟨?_, ⟨cur, sc_oth hr.ne hg9 e, r2, r3⟩, ?_, ?_, hr.low⟩⟩, ?_⟩⟩
 ·rw [sc_blk hb9 e]
  simp [rcells, mcells, setSt]
 ·rw [← e]; exact own_set' hown9 hb9 (by decide)
 ·rw [← e]; exact own_set' ho9 hb9 (by decide)
 ·exact (hb.grown hg fun q e => ⟨(hown.lt q e).1, ne q e⟩).set hb9 hr.low.1 (.inl rfl) e
def rfail (s : RSt) (kd info : Int) : RSt := if s.k = 0 then ⟨s.m, kd, info⟩ else s
def rpush (s : RSt) (x : Int) : RSt := if 4096 ≤ s.m.st.length then rfail s 5 0 else { s with m := setSt s.m (s.m.st ++ [x]) }
def rpop (s : RSt) : RSt × Int := match s.m.st.getLast? with | none => (rfail s 5 0, 0) | some x => ({ s with m := setSt s.m s.m.st.dropLast }, x)
def rin (s : RSt) (a : Int) : RSt := if ramOk a then s else rfail s 2 a
/-- A method that answers nothing leaves a state. -/
def Leaves0 (b0 : Nat) (U : World) (E : Env) (B g : Nat) (s : RSt) (e : Ending) (w' : World) : Prop := e = .returned (.tuple #[]) ∧ RM b0 U E B g s w'
def LeavesV (b0 : Nat) (U : World) (E : Env) (B g : Nat) (s : RSt) (v : Value) (e : Ending) (w' : World) : Prop := e = .returned v ∧ RM b0 U E B g s w'
set_option maxRecDepth 8000 in
set_option maxHeartbeats 4000000 in
theorem fail_z {b0 : Nat} {U V : World} {E : Env} {B g : Nat} {s : RSt} (h : RM b0 U E B g s V) (kd info : Int) : Calls Tryz.prog 27 #[.pointer (some ⟨B, 0, none⟩), .int .i64 kd, .int .u16 info] V (Leaves0 b0 U E B g (rfail s kd info)) := by
 obtain ⟨m, k, i⟩ := s
 have c26 := h.cell 26 (.int .i64 k) (fun _ _ => rfl)
 have c27 := h.cell 27 (.int .u16 i) (fun _ _ => rfl)
 have z26 := h.frz 26
 have z27 := h.frz 27
 have H := Lib.hid h
 clear h
 by_cases hk : k = 0
 ·subst hk
  go_enter Tryz.func27, Tryz.ntmps27
  go_wp2_with fail
  exact ends (v := .tuple #[]) (by simp [results, Tryz.results27]) rfl ⟨rfl, (H.out.put (s' := ⟨m, kd, i⟩) 26 _ rfl (fun _ _ => rfl) rfl rfl rfl).put (s' := ⟨m, kd, info⟩) 27 _ rfl (fun _ _ => rfl) rfl rfl rfl⟩
 ·have b0 : (k == 0) = false := by simpa using hk
  have d0 : decide (k = 0) = false := decide_eq_false hk
  have hr : rfail ⟨m, k, i⟩ kd info = ⟨m, k, i⟩ := if_neg hk
  rw [hr]
  clear hk hr
  go_enter Tryz.func27, Tryz.ntmps27
  go_wp2_with fail
  exact ends (v := .tuple #[]) (by simp [results, Tryz.results27]) rfl ⟨rfl, H.out⟩
set_option maxRecDepth 8000 in
set_option maxHeartbeats 4000000 in
theorem push_z {b0 : Nat} {U V : World} {E : Env} {B g : Nat} {s : RSt} (h : RM b0 U E B g s V) (hl : s.m.st.length ≤ 5000) (x : Int) : Calls Tryz.prog 49 #[.pointer (some ⟨B, 0, none⟩), .int .u16 x] V (Leaves0 b0 U E B g (rpush s x)) := by
 obtain ⟨p, c, c24, hown⟩ := h.stack
 have H := Lib.hid h
 by_cases hn : 4096 ≤ s.m.st.length
 ·have d0 : decide ((4096 : Int) ≤ (s.m.st.length : Int)) = true := decide_eq_true (by omega)
  have d1 : decide (4096 ≤ s.m.st.length) = true := decide_eq_true hn
  have hr : rpush s x = rfail s 5 0 := if_pos hn
  rw [hr]
  clear hn hr hown h hl
  go_enter Tryz.func49, Tryz.ntmps49
  go_wp2_with fail
  refine (fail_z H.out 5 0).mono ?_
  rintro e w ⟨rfl, hw⟩
  have HW := Lib.hid hw
  clear hw
  go_wp2_with fail
  exact ends (v := .tuple #[]) (by simp [results, Tryz.results49]) rfl ⟨rfl, HW.out⟩
 ·have d0 : decide ((4096 : Int) ≤ (s.m.st.length : Int)) = false := decide_eq_false (by omega)
  have d1 : decide (4096 ≤ s.m.st.length) = false := decide_eq_false hn
  have hr : rpush s x = { s with m := setSt s.m (s.m.st ++ [x]) } := if_neg hn
  rw [hr]
  have HO := Lib.hid hown
  have HL : Hid (s.m.st.length < 4096) := Lib.hid (by omega)
  have y24 : (V.alloc (.cells #[.int .u16 x] 22)).cell? ⟨B, 24, none⟩ = some (.slice p s.m.st.length c) := ((below1 V _).cell (p := ⟨B, 24, none⟩) h.lt).trans c24
  clear hn hr hown h hl
  go_enter Tryz.func49, Tryz.ntmps49
  go_wp2_with (at_builtin; refine Hid.out ?_)
  refine Lib.hid ?_
  refine wpList_plain (by rfl) fun K hK => ?_
  refine wp_app _ _ 33 22 (.int .u16 0) 1 2 rfl Tryz.underlying33 info22 rfl (by decide) b0 (.slice p s.m.st.length c) s.m.st.length (s.m.st.map (Value.int .u16)) rfl (own_next HO.out (below1 V _)) (some ⟨V.heap.size, 0, none⟩) 1 1 [.int .u16 x] rfl rfl (own_rowSrc (own_one V x) (by decide)) (by simp [Value.oneCell']) (by have := HL.out; unfold maxLen; omega) (by have := HL.out; omega) (Nat.le_trans (Nat.le_trans H.out.low (Nat.le_of_lt H.out.lt)) (below1 V _).size) ?_
  intro v9 W9 hown hg _
  refine hK _ _ ?_
  obtain ⟨l9, hl9⟩ : ∃ l9, s.m.st ++ [x] = l9 := ⟨_, rfl⟩
  have hm : s.m.st.map (Value.int .u16) ++ [Value.int .u16 x] = l9.map (Value.int .u16) := by rw [← hl9]; simp
  have hlen : s.m.st.length + 1 = l9.length := by rw [← hl9]; simp
  rw [hm, hlen] at hown
  obtain ⟨p9, c9, rfl⟩ := own_slice2 hown
  have hq := RM.grow (H.out.next (below1 V (.cells #[.int .u16 x] 22))) (own_next HO.out (below1 V _)) y24 hown hg
  have HQ := Lib.hid hq
  have w24 : ∃ u, W9.cell? ⟨B, 24, none⟩ = some u := hq.1
  obtain ⟨u, w24⟩ := w24
  have x24 : W9.frozen? ⟨B, 24, none⟩ = false := hq.2.1
  rw [hl9]
  clear hown hg hm hlen hK hq y24 c24 hl9
  go_wp2_with fail
  exact ends (v := .tuple #[]) (by simp [results, Tryz.results49]) rfl ⟨rfl, HQ.out.2.2 _ rfl⟩
set_option maxRecDepth 8000 in
set_option maxHeartbeats 4000000 in
theorem pop_z {b0 : Nat} {U V : World} {E : Env} {B g : Nat} {s : RSt} (h : RM b0 U E B g s V) (hl : s.m.st.length ≤ 5000) : Calls Tryz.prog 50 #[.pointer (some ⟨B, 0, none⟩)] V (LeavesV b0 U E B g (rpop s).1 (.int .u16 (rpop s).2)) := by
 obtain ⟨p, c, c24, hown⟩ := h.stack
 have H := Lib.hid h
 rcases List.eq_nil_or_concat s.m.st with hn | ⟨l, x, hx⟩
 ·have hr : rpop s = (rfail s 5 0, 0) := by unfold rpop; rw [hn]; rfl
  rw [hr]
  have hz : s.m.st.length = 0 := by rw [hn]; rfl
  rw [hz] at c24
  clear hn hr hown h hl hz
  go_enter Tryz.func50, Tryz.ntmps50
  go_wp2_with fail
  refine (fail_z H.out 5 0).mono ?_
  rintro e w ⟨rfl, hw⟩
  have HW := Lib.hid hw
  clear hw
  go_wp2_with fail
  exact bodyPost_ret (v := .int .u16 0) (by simp [results, Tryz.results50, go_sem]) rfl ⟨rfl, HW.out⟩
 ·have hr : rpop s = ({ s with m := setSt s.m l }, x) := by unfold rpop; rw [hx]; simp
  rw [hr]
  have hx : s.m.st = l ++ [x] := by simpa using hx
  obtain ⟨n, hn⟩ : ∃ n, l.length = n := ⟨_, rfl⟩
  have hlen : s.m.st.length = n + 1 := by rw [hx]; simp [hn]
  rw [hlen] at c24
  obtain ⟨q, hp, hq, hcell⟩ := (own_src hown).resolve_left (by rw [hlen]; omega)
  subst hp
  have hget : (s.m.st.map (Value.int .u16))[n]? = some (.int .u16 x) := by rw [hx, List.map_append, List.getElem?_append_right (by simp [hn])]; simp [hn]
  have cx := hcell n _ hget
  have hcut : V.ownsRow b0 22 1 (.slice (some ⟨q, 0, none⟩) n c) l.length (l.map (Value.int .u16)) := by
   rw [hlen, hx, List.map_append] at hown
   have h2 := own_cut hown (by simp)
   rw [List.length_map, hn] at h2
   rw [hn]
   exact h2
  have hcap : n + 1 ≤ c := by
   rcases hown.2 with ⟨e, h0⟩ | ⟨q', cap, cur, e1, hb, hg, hnc, _⟩
   ·omega
   ·injection e1 with e1 e2 e3
    omega
  have HL : Hid (n ≤ 5000) := Lib.hid (by omega)
  have HCUT := Lib.hid hcut
  have HC : Hid (∀ W, Below V.heap.size V W → W.cell? ⟨B, 24, none⟩ = some (.slice (some ⟨q, 0, none⟩) (n + 1) c) ∧ W.cell? ⟨q, n, none⟩ = some (.int .u16 x) ∧ W.frozen? ⟨B, 24, none⟩ = false) := Lib.hid fun W hW => ⟨((hW.cell (p := ⟨B, 24, none⟩) h.lt)).trans c24, (hW.cell (p := ⟨q, n, none⟩) hq).trans cx, (h.next hW).frz 24⟩
  have d0 : ((((n + 1 : Nat) : Int)) == 0) = false := by rw [beq_eq_false_iff_ne]; omega
  have d1 : (n + 1 == 0) = false := rfl
  have x1 : IntKind.i64.wrap (((n + 1 : Nat) : Int) - 1) = (n : Int) := by rw [IntWalk.i64_in _ (by omega)]; omega
  have x2 : IntKind.i64.wrap ((n : Int) + 1 - 1) = (n : Int) := by rw [IntWalk.i64_in _ (by omega)]; omega
  have x3 : IntKind.i64.wrap (n : Int) = (n : Int) := IntWalk.i64_in _ (by omega)
  have d2 : ((n : Int) + 1 == 0) = false := by rw [beq_eq_false_iff_ne]; omega
  have i0 : (0 : Int) ≤ (n : Int) := by omega
  have i1 : (n : Int) < ((n + 1 : Nat) : Int) := by omega
  have i2 : (n : Int) < (n : Int) + 1 := by omega
  have i3 : (n : Int) ≤ (c : Int) := by omega
  clear hr hx hlen hcell hget cx hcut hcap hown h hl hq hn
  go_enter Tryz.func50, Tryz.ntmps50
  go_upto_region 4 with (fail)
  refine wp_region_flow (S := fun W => Below V.heap.size V W) (by kernel_rfl) (by kernel_rfl) (Below.drew (Below.refl _ _)) ?_
  iterate 13
   apply Flow.step
   ·intro V2 K hS hK
    obtain ⟨c24, cx, z24⟩ := HC.out _ hS
    go_simp
    exact hK _ hS
   simp only [lQ]
  refine Flow.done ?_
  intro V2 hS
  have HB2 := Lib.hid hS
  clear hS
  go_upto_region 5 with (fail)
  have HC2 : Hid (∀ W, Below V2.heap.size V2 W → W.cell? ⟨B, 24, none⟩ = some (.slice (some ⟨q, 0, none⟩) (n + 1) c) ∧ W.frozen? ⟨B, 24, none⟩ = false) := Lib.hid fun W hW => ⟨(HC.out W (below_next HB2.out hW)).1, (HC.out W (below_next HB2.out hW)).2.2⟩
  refine' wp_region_flowR [[], [], [(25, 1)], [(26, 2)], [(27, 3)], [], [(29, 5)], [(30, 6)], [(31, 7)], [(32, 8)], [(33, 9)], [(28, 4), (34, 10)], [(24, 0)], [(36, 12)], [(24, 0), (25, 1), (26, 2), (27, 3), (28, 4), (29, 5), (30, 6), (31, 7), (32, 8), (33, 9), (34, 10), (35, 11), (36, 12), (37, 13)]] (relL [eqV _, eqV _, eqV _, eqV _, eqV _, eqV _, eqV _, eqV _, eqV _, eqV _, eqV _, eqV _, eqV _, eqV _]) (by kernel_rfl) (by kernel_rfl) ?_
  rotate_left 14
  iterate 14
   refine FlowR.step ?_ ?_
   ·intro V hV
    simp only [Dep, lQ]
    repeat rintro _ ⟨_, rfl, _⟩
    intro K hK
    obtain ⟨c24, z24⟩ := HC2.out _ hV
    go_simp
    refine hK _ _ ?_ (Below.refl _ _)
    simp only [lR]
    exact rfl
  refine FlowR.last ?_
  intro V hV
  simp only [Dep, lQ]
  repeat rintro _ ⟨_, rfl, _⟩
  intro K hK
  obtain ⟨c24, z24⟩ := HC2.out _ hV
  go_simp
  refine hK _ _ ?_
  have hb := below_next HB2.out hV
  have HQ := Lib.hid ((H.out.next hb).putSt (l := l) rfl (own_next HCUT.out hb))
  clear hK hb hV c24 z24
  go_wp2_with fail
  exact bodyPost_ret (v := .int .u16 x) (by simp [results, Tryz.results50, go_sem]) rfl ⟨rfl, HQ.out⟩
set_option maxRecDepth 8000 in
set_option maxHeartbeats 4000000 in
theorem in_z {b0 : Nat} {U V : World} {E : Env} {B g : Nat} {s : RSt} (h : RM b0 U E B g s V) (a : Int) : Calls Tryz.prog 84 #[.pointer (some ⟨B, 0, none⟩), .int .u16 a] V (LeavesV b0 U E B g (rin s a) (.bool (decide (ramOk a)))) := by
 have H := Lib.hid h
 clear h
 by_cases h0 : 16384 ≤ a
 rotate_left
 ·have hr : rin s a = rfail s 2 a := if_neg fun h => h0 h.1
  have hd : decide (ramOk a) = false := decide_eq_false fun h => h0 h.1
  have d0 : decide ((16384 : Int) ≤ a) = false := decide_eq_false h0
  rw [hr, hd]
  clear hr hd h0
  go_enter Tryz.func84, Tryz.ntmps84
  go_wp2_with fail
  refine (fail_z H.out 2 a).mono ?_
  rintro e w ⟨rfl, hw⟩
  have HW := Lib.hid hw
  clear hw
  go_wp2_with fail
  exact bodyPost_ret (v := .bool false) (by simp [results, Tryz.results84, go_sem]) rfl ⟨rfl, HW.out⟩
 have d0 : decide ((16384 : Int) ≤ a) = true := decide_eq_true h0
 by_cases h1 : a < 24576
 ·have hr : rin s a = s := if_pos ⟨h0, h1⟩
  have hd : decide (ramOk a) = true := decide_eq_true ⟨h0, h1⟩
  have d1 : decide (a < (24576 : Int)) = true := decide_eq_true h1
  rw [hr, hd]
  clear hr hd h0 h1
  go_enter Tryz.func84, Tryz.ntmps84
  go_wp2_with fail
  exact bodyPost_ret (v := .bool true) (by simp [results, Tryz.results84, go_sem]) rfl ⟨rfl, H.out⟩
 ·have hr : rin s a = rfail s 2 a := if_neg fun h => h1 h.2
  have hd : decide (ramOk a) = false := decide_eq_false fun h => h1 h.2
  have d1 : decide (a < (24576 : Int)) = false := decide_eq_false h1
  rw [hr, hd]
  clear hr hd h0 h1
  go_enter Tryz.func84, Tryz.ntmps84
  go_wp2_with fail
  refine (fail_z H.out 2 a).mono ?_
  rintro e w ⟨rfl, hw⟩
  have HW := Lib.hid hw
  clear hw
  go_wp2_with fail
  exact bodyPost_ret (v := .bool false) (by simp [results, Tryz.results84, go_sem]) rfl ⟨rfl, HW.out⟩
def rslot (s : RSt) (n : Int) : RSt × Int := if 0 ≤ n ∧ n < s.m.st.length then (s, n) else (rfail s 5 0, -1)
set_option maxRecDepth 8000 in
set_option maxHeartbeats 4000000 in
theorem slot_z {b0 : Nat} {U V : World} {E : Env} {B g : Nat} {s : RSt} (h : RM b0 U E B g s V) (n : Int) : Calls Tryz.prog 51 #[.pointer (some ⟨B, 0, none⟩), .int .i64 n] V (LeavesV b0 U E B g (rslot s n).1 (.int .i64 (rslot s n).2)) := by
 obtain ⟨p, c, c24, _⟩ := h.stack
 have H := Lib.hid h
 clear h
 by_cases h0 : n < 0
 ·have hr : rslot s n = (rfail s 5 0, -1) := if_neg fun h => by omega
  have d0 : decide (n < 0) = true := decide_eq_true h0
  rw [hr]
  clear hr h0
  go_enter Tryz.func51, Tryz.ntmps51
  go_wp2_with fail
  refine (fail_z H.out 5 0).mono ?_
  rintro e w ⟨rfl, hw⟩
  have HW := Lib.hid hw
  clear hw c24
  go_wp2_with fail
  exact bodyPost_ret (v := .int .i64 (-1)) (by simp [results, Tryz.results51, go_sem]) rfl ⟨rfl, HW.out⟩
 have d0 : decide (n < 0) = false := decide_eq_false h0
 by_cases h1 : (s.m.st.length : Int) ≤ n
 ·have hr : rslot s n = (rfail s 5 0, -1) := if_neg fun h => by omega
  have d1 : decide ((s.m.st.length : Int) ≤ n) = true := decide_eq_true h1
  rw [hr]
  clear hr h0 h1
  go_enter Tryz.func51, Tryz.ntmps51
  go_wp2_with fail
  refine (fail_z H.out 5 0).mono ?_
  rintro e w ⟨rfl, hw⟩
  have HW := Lib.hid hw
  clear hw c24
  go_wp2_with fail
  exact bodyPost_ret (v := .int .i64 (-1)) (by simp [results, Tryz.results51, go_sem]) rfl ⟨rfl, HW.out⟩
 ·have hr : rslot s n = (s, n) := if_pos ⟨by omega, by omega⟩
  have d1 : decide ((s.m.st.length : Int) ≤ n) = false := decide_eq_false h1
  rw [hr]
  clear hr h0 h1
  go_enter Tryz.func51, Tryz.ntmps51
  go_wp2_with fail
  exact bodyPost_ret (v := .int .i64 n) (by simp [results, Tryz.results51, go_sem]) rfl ⟨rfl, H.out⟩
/-- The code byte at an address, the world as it was. -/
def rcode (E : Env) (m : Mach) (a : Int) : Option Int :=
 let b := if 4096 ≤ a then m.bank else 0
 if a < 8192 ∧ 0 ≤ b ∧ b < E.banks.length ∧ b < 64 ∧ a % 4096 < (bankAt E.banks b).size then some (byteI (bankAt E.banks b) (a % 4096).toNat) else none
theorem rcode_eq (E : Env) (m : Mach) (a : Int) (ha : OkU16 a) : rcode E m a = codeM E m a := by
 obtain ⟨b, hb⟩ : ∃ b, (if 4096 ≤ a then m.bank else 0) = b := ⟨_, rfl⟩
 have h0 := ha.1
 have h1 := ha.2
 unfold rcode
 simp only [hb]
 by_cases hg : a < 8192 ∧ 0 ≤ b ∧ b < E.banks.length ∧ b < 64 ∧ a % 4096 < (bankAt E.banks b).size
 ·rw [if_pos hg]
  refine (codeM_in hb ⟨hg.2.1, hg.2.2.2.1, ?_⟩ hg.2.2.1 rfl h0 hg.2.2.2.2).symm
  by_cases h4 : 4096 ≤ a
  ·exact .inr ⟨h4, hg.1⟩
  ·rw [if_neg h4] at hb
   exact .inl ⟨hb.symm, by omega⟩
 ·rw [if_neg hg]
  refine (codeM_none ?_).symm
  unfold codeS
  rw [hb, codeI_no]
  ·rfl
  ·rintro ⟨h9, _⟩
   unfold offI at h9
   split at h9
   ·rename_i h8
    obtain ⟨h5, h6, h7⟩ := h8
    unfold isCode at h5
    exact hg ⟨by omega, h5.1, h6, h5.2.1, h7⟩
   ·cases h9
set_option maxRecDepth 8000 in
set_option maxHeartbeats 4000000 in
theorem codeAt_z {b0 : Nat} {U V : World} {E : Env} {B g : Nat} {s : RSt} (h : RM b0 U E B g s V) (hE : StrsLow b0 U E.pb E.banks) (hl : E.banks.length ≤ maxLen) (hbk : OkI64 s.m.bank) (a : Int) (ha : OkU16 a) : Calls Tryz.prog 46 #[.pointer (some ⟨B, 0, none⟩), .int .u16 a] V fun e w' => e = .returned (.tuple #[.int .u8 ((rcode E s.m a).getD 0), .bool (rcode E s.m a).isSome]) ∧ V = w' := by
 obtain ⟨b, hb⟩ : ∃ b, (if 4096 ≤ a then s.m.bank else 0) = b := ⟨_, rfl⟩
 have c0 := h.cell 0 (.slice E.pb E.banks.length E.cb) (fun _ _ => rfl)
 have c19 := h.cell 19 (.int .i64 s.m.bank) (fun _ _ => rfl)
 have x1 : IntKind.i64.wrap a = a := IntWalk.i64_in _ (by have := ha.1; have := ha.2; omega)
 have x2 : a.tmod 4096 = a % 4096 := Int.tmod_eq_emod_of_nonneg ha.1
 have HA := Lib.hid ha
 have HBK := Lib.hid hbk
 have HS : Hid (∀ k S, E.banks[k]? = some S → ∃ q, E.pb = some ⟨q, 0, none⟩ ∧ V.cell? ⟨q, k, none⟩ = some (.string S) ∧ S.size ≤ maxLen) := Lib.hid fun k S hk => by
  obtain ⟨q, e, hq, hc, hm⟩ := hE k S hk
  exact ⟨q, e, h.2.cell hq hc, hm⟩
 have HL := Lib.hid hl
 obtain ⟨r, hr⟩ : ∃ r, rcode E s.m a = r := ⟨_, rfl⟩
 rw [hr]
 have HR := Lib.hid hr
 have HBB := Lib.hid hb
 clear h hE hl hbk ha hr
 go_enter Tryz.func46, Tryz.ntmps46
 go_upto_if 9 with (fail)
 go_cut [6] (fun sx wx => sx = .int .i64 b ∧ V = wx)
 case first =>
  by_cases h4 : 4096 ≤ a
  ·have d4 : decide ((4096 : Int) ≤ a) = true := decide_eq_true h4
   rw [if_pos h4] at hb
   have HB9 := Lib.hid hb
   clear hb
   go_wp2_with fail
   go_meet
   exact ⟨by rw [HB9.out], rfl⟩
  ·have d4 : decide ((4096 : Int) ≤ a) = false := decide_eq_false h4
   rw [if_neg h4] at hb
   have HB9 := Lib.hid hb
   clear hb
   go_wp2_with fail
   go_meet
   exact ⟨by rw [HB9.out], rfl⟩
 case rest =>
 obtain ⟨rfl, rfl⟩ := hcut
 clear hb c19
 by_cases h8 : 8192 ≤ a
 ·have d8 : decide ((8192 : Int) ≤ a) = true := decide_eq_true h8
  obtain rfl : none = r := by rw [← HR.out]; exact (if_neg fun h => by omega).symm
  clear h8
  go_wp2_with fail
  exact bodyPost_ret (v := .tuple #[.int .u8 0, .bool false]) (by simp [results, Tryz.results46, go_sem]) rfl ⟨rfl, rfl⟩
 have d8 : decide ((8192 : Int) ≤ a) = false := decide_eq_false h8
 have HA8 : Hid (a < 8192) := Lib.hid (by omega)
 clear h8
 by_cases hb0 : b < 0
 ·have d0 : decide (b < 0) = true := decide_eq_true hb0
  obtain rfl : none = r := by
   rw [← HR.out]
   unfold rcode
   simp only [HBB.out]
   exact (if_neg fun h => by omega).symm
  clear hb0
  go_wp2_with fail
  exact bodyPost_ret (v := .tuple #[.int .u8 0, .bool false]) (by simp [results, Tryz.results46, go_sem]) rfl ⟨rfl, rfl⟩
 have d0 : decide (b < 0) = false := decide_eq_false hb0
 have HB0 : Hid (0 ≤ b) := Lib.hid (by omega)
 clear hb0
 by_cases hm : (64 : Int) < E.banks.length
 all_goals
  by_cases hbm : (if (64 : Int) < E.banks.length then 64 else (E.banks.length : Int)) ≤ b
  ·obtain rfl : none = r := by
    rw [← HR.out]
    unfold rcode
    simp only [HBB.out]
    exact (if_neg fun h => by split at hbm <;> omega).symm
   first | (rw [if_pos hm] at hbm; have d1 : decide ((64 : Int) ≤ b) = true := decide_eq_true hbm; clear hbm) | (rw [if_neg hm] at hbm; have d1 : decide ((E.banks.length : Int) ≤ b) = true := decide_eq_true hbm; clear hbm)
   go_wp2_with fail
   all_goals exact bodyPost_ret (v := .tuple #[.int .u8 0, .bool false]) (by simp [results, Tryz.results46, go_sem]) rfl ⟨rfl, rfl⟩
  have hlt : b < E.banks.length ∧ b < 64 := by split at hbm <;> omega
  first | (rw [if_pos hm] at hbm; have d1 : decide ((64 : Int) ≤ b) = false := decide_eq_false hbm) | (rw [if_neg hm] at hbm; have d1 : decide ((E.banks.length : Int) ≤ b) = false := decide_eq_false hbm)
  obtain ⟨k, rfl⟩ : ∃ k : Nat, b = (k : Int) := ⟨b.toNat, by have := HB0.out; omega⟩
  have hk : k < E.banks.length := by omega
  obtain ⟨S, hS⟩ : ∃ S, E.banks[k]? = some S := ⟨_, List.getElem?_eq_getElem hk⟩
  obtain ⟨q, hpb, hcq, hmS⟩ := HS.out k S hS
  have hbS : bankAt E.banks (k : Int) = S := by unfold bankAt; rw [Int.toNat_natCast, hS]; rfl
  have HRR : Hid ((if a < 8192 ∧ (0 : Int) ≤ (k : Int) ∧ (k : Int) < E.banks.length ∧ (k : Int) < 64 ∧ a % 4096 < S.size then some (byteI S (a % 4096).toNat) else none) = r) := Lib.hid (by
   rw [← HR.out]
   unfold rcode
   simp only [HBB.out, hbS])
  rw [hpb] at c0
  have i0 : (0 : Int) ≤ (k : Int) := by omega
  have i1 : (k : Int) < (E.banks.length : Int) := by omega
  have HLT := Lib.hid hlt
  clear hlt hbm hS hbS hpb hk
  have x3 : (a % 4096).toNat = (a % 4096).toNat := rfl
  by_cases hz : (S.size : Int) ≤ a % 4096
  ·have d2 : decide ((S.size : Int) ≤ a % 4096) = true := decide_eq_true hz
   obtain rfl : none = r := by rw [← HRR.out]; exact (if_neg fun h => by omega).symm
   clear hz
   go_wp2_with fail
   exact bodyPost_ret (v := .tuple #[.int .u8 0, .bool false]) (by simp [results, Tryz.results46, go_sem]) rfl ⟨rfl, rfl⟩
  ·have d2 : decide ((S.size : Int) ≤ a % 4096) = false := decide_eq_false hz
   obtain rfl : some (byteI S (a % 4096).toNat) = r := by rw [← HRR.out]; exact (if_pos ⟨HA8.out, i0, HLT.out.1, HLT.out.2, by omega⟩).symm
   obtain ⟨j, hj⟩ : ∃ j : Nat, a % 4096 = (j : Int) := ⟨(a % 4096).toNat, by have := HA.out.1; omega⟩
   rw [hj] at d2 x2
   have HJ := Lib.hid hj
   have hjs : j < S.size := by omega
   have j0 : (0 : Int) ≤ (j : Int) := by omega
   have j1 : (j : Int) < (S.size : Int) := by omega
   have hb9 : ((S[j]'hjs).toNat : Int) = byteI S j := byteI_at S j hjs
   clear hz hj
   go_wp2_with fail
   exact bodyPost_ret (v := .tuple #[.int .u8 (byteI S j), .bool true]) (by simp [results, Tryz.results46, go_sem]) rfl ⟨by rw [HJ.out, Int.toNat_natCast], rfl⟩
def rjump (E : Env) (s : RSt) (a : Int) : RSt := match rcode E s.m a with
 | none => rfail s 2 a
 | some lo => match rcode E s.m ((a + 1) % 65536) with
  | none => rfail s 2 ((a + 1) % 65536)
  | some hi => { s with m := { s.m with pc := lo + hi * 256 } }
theorem rcode_bd {E : Env} {m : Mach} {a c : Int} (h : rcode E m a = some c) : 0 ≤ c ∧ c < 256 := by
 unfold rcode at h
 dsimp only at h
 generalize (if 4096 ≤ a then m.bank else 0) = b at h
 split at h
 ·injection h with h
  rw [← h]
  exact byteI_bd _ _
 ·cases h
set_option maxRecDepth 8000 in
set_option maxHeartbeats 4000000 in
theorem jump_z {b0 : Nat} {U V : World} {E : Env} {B g : Nat} {s : RSt} (h : RM b0 U E B g s V) (hE : StrsLow b0 U E.pb E.banks) (hl : E.banks.length ≤ maxLen) (hbk : OkI64 s.m.bank) (a : Int) (ha : OkU16 a) : Calls Tryz.prog 59 #[.pointer (some ⟨B, 0, none⟩), .int .u16 a] V (Leaves0 b0 U E B g (rjump E s a)) := by
 have HC : Hid (∀ x, OkU16 x → Calls Tryz.prog 46 #[.pointer (some ⟨B, 0, none⟩), .int .u16 x] V fun e w' => e = .returned (.tuple #[.int .u8 ((rcode E s.m x).getD 0), .bool (rcode E s.m x).isSome]) ∧ V = w') := Lib.hid fun x hx => codeAt_z h hE hl hbk x hx
 have H := Lib.hid h
 have HA := Lib.hid ha
 have x1 : IntKind.u16.wrap (a + 0) = a := by rw [IntKind.wrap_u16]; have := ha.1; have := ha.2; omega
 have x1' : IntKind.u16.wrap a = a := by rw [IntKind.wrap_u16]; have := ha.1; have := ha.2; omega
 have x2 : IntKind.u16.wrap (a + 1) = (a + 1) % 65536 := by rw [IntKind.wrap_u16]
 clear h hE hl hbk ha
 go_enter Tryz.func59, Tryz.ntmps59
 go_wp2_with fail
 go_loopw [4, 5, 6, 7, 12] (fun v_ k_ c_ o_ t_ wr => ∃ (j : Nat) (v : Int), j ≤ 2 ∧ k_ = .int .u16 (j : Int) ∧ v_ = .int .u16 v ∧ V = wr ∧ (j = 0 → v = 0) ∧ (1 ≤ j → ∃ lo, rcode E s.m a = some lo ∧ (j = 1 → v = lo) ∧ (j = 2 → ∃ hi, rcode E s.m ((a + 1) % 65536) = some hi ∧ v = lo + hi * 256))) (fun v_ k_ c_ o_ t_ _ => 2 - (intOf k_).toNat)
 case atStart => exact ⟨0, 0, by omega, rfl, rfl, rfl, fun _ => rfl, fun h => by omega⟩
 case round =>
  obtain ⟨j, v, hj, rfl, rfl, rfl, h0, h1⟩ := hrel
  have HH := Lib.hid (And.intro h0 h1)
  clear h0 h1
  have hjj : j = 0 ∨ j = 1 ∨ j = 2 := by omega
  rcases hjj with rfl | rfl | rfl
  ·obtain rfl := HH.out.1 rfl
   obtain ⟨r, hr⟩ : ∃ r, rcode E s.m a = r := ⟨_, rfl⟩
   have HCC := HC.out a HA.out
   rw [hr] at HCC
   have HR := Lib.hid hr
   have HCC := Lib.hid HCC
   clear hr
   cases r with
   | none =>
    go_wp2_with fail
    refine HCC.out.mono ?_
    rintro e w ⟨rfl, rfl⟩
    go_wp2_with fail
    refine (fail_z H.out 2 a).mono ?_
    rintro e w ⟨rfl, hw⟩
    have HW := Lib.hid hw
    clear hw
    go_wp2_with fail
    have hr : rjump E s a = rfail s 2 a := by unfold rjump; rw [HR.out]
    exact ends (v := .tuple #[]) (by simp [results, Tryz.results59]) rfl ⟨rfl, by rw [hr]; exact HW.out⟩
   | some lo =>
    have hlo := rcode_bd HR.out
    go_wp2_with fail
    refine HCC.out.mono ?_
    rintro e w ⟨rfl, rfl⟩
    go_wp2_with fail
    go_roundw
    case rel => exact ⟨1, lo, by omega, rfl, rfl, trivial, fun h => by omega, fun _ => ⟨lo, HR.out, fun _ => rfl, fun h => by omega⟩⟩
    case measure => simp [intOf]
  ·obtain ⟨lo, hlo, hv, _⟩ := HH.out.2 (by omega)
   obtain rfl := hv rfl
   have HLO := Lib.hid hlo
   have hlo := rcode_bd hlo
   obtain ⟨b, hb⟩ : ∃ b, (a + 1) % 65536 = b := ⟨_, rfl⟩
   rw [hb] at x2
   have HB := Lib.hid hb
   obtain ⟨r, hr⟩ : ∃ r, rcode E s.m b = r := ⟨_, rfl⟩
   have HCC := HC.out b (by rw [← hb]; exact ⟨by omega, by omega⟩)
   rw [hr] at HCC
   have HR := Lib.hid hr
   have HCC := Lib.hid HCC
   clear hr hb hv
   cases r with
   | none =>
    go_wp2_with fail
    refine HCC.out.mono ?_
    rintro e w ⟨rfl, rfl⟩
    go_wp2_with fail
    refine (fail_z H.out 2 b).mono ?_
    rintro e w ⟨rfl, hw⟩
    have HW := Lib.hid hw
    clear hw
    go_wp2_with fail
    have hr : rjump E s a = rfail s 2 b := by unfold rjump; rw [HLO.out]; dsimp only; rw [HB.out, HR.out]
    exact ends (v := .tuple #[]) (by simp [results, Tryz.results59]) rfl ⟨rfl, by rw [hr]; exact HW.out⟩
   | some hi =>
    have hhi := rcode_bd HR.out
    go_wp2_with fail
    refine HCC.out.mono ?_
    rintro e w ⟨rfl, rfl⟩
    go_wp2_with fail
    go_roundw
    case rel => exact ⟨2, v + hi * 256, by omega, rfl, rfl, trivial, fun h => by omega, fun _ => ⟨v, HLO.out, fun h => by omega, fun _ => ⟨hi, HB.out ▸ HR.out, rfl⟩⟩⟩
    case measure => simp [intOf]
  ·obtain ⟨lo, hlo, _, hv⟩ := HH.out.2 (by omega)
   obtain ⟨hi, hhi, rfl⟩ := hv rfl
   have HLO := Lib.hid hlo
   have HHI := Lib.hid hhi
   have y15 : ∃ u, V.cell? ⟨B, 15, none⟩ = some u := ⟨_, H.out.cell 15 (.int .u16 s.m.pc) (fun _ _ => rfl)⟩
   obtain ⟨u, y15⟩ := y15
   have z15 := H.out.frz 15
   clear hv hlo hhi
   go_wp2_with fail
   have hr : rjump E s a = { s with m := { s.m with pc := lo + hi * 256 } } := by unfold rjump; rw [HLO.out]; dsimp only; rw [HHI.out]
   exact ends (v := .tuple #[]) (by simp [results, Tryz.results59]) rfl ⟨rfl, by rw [hr]; exact H.out.put 15 _ rfl (fun _ _ => rfl) rfl rfl rfl⟩
theorem RM.ramc {b0 : Nat} {U V : World} {E : Env} {B g : Nat} {s : RSt} (h : RM b0 U E B g s V) (j : Nat) (hj : j < 8192) : V.cell? ⟨g, j, none⟩ = some (.int .u8 (s.m.ram j)) := by
 obtain ⟨⟨sv, ov, h⟩, _⟩ := h
 obtain ⟨cur, h1, h2, h3⟩ := h.ram
 rw [Lib.cell_of_heap h1 j]
 exact h3 j hj
def rread (s : RSt) (a : Int) (n : Nat) : RSt × Int := match ramBad a 0 n with | some x => (rfail s 2 x, 0) | none => (s, rdRam s.m a n)
theorem rin_no {s : RSt} {a : Int} (h : ¬ ramOk a) : rin s a = rfail s 2 a := if_neg h
theorem rin_ok {s : RSt} {a : Int} (h : ramOk a) : rin s a = s := if_pos h
/-- What an address in RAM means for the code. -/
theorem ram_idx {b : Int} (h : ramOk b) : ∃ j : Nat, j < 8192 ∧ IntKind.u16.wrap (b - 16384) = (j : Int) ∧ (b - 16384).toNat = j := by
 unfold ramOk at h
 exact ⟨(b - 16384).toNat, by omega, by rw [IntKind.wrap_u16]; omega, rfl⟩
set_option maxRecDepth 8000 in
set_option maxHeartbeats 4000000 in
theorem read_z {b0 : Nat} {U V : World} {E : Env} {B g : Nat} {s : RSt} (h : RM b0 U E B g s V) (hr : ∀ j, 0 ≤ s.m.ram j ∧ s.m.ram j < 256) (a : Int) (ha : OkU16 a) (n : Nat) (hn : n = 1 ∨ n = 2) : Calls Tryz.prog 56 #[.pointer (some ⟨B, 0, none⟩), .int .u16 a, .int .i64 (n : Int)] V (LeavesV b0 U E B g (rread s a n).1 (.int .u16 (rread s a n).2)) := by
 have HI : Hid (∀ W x, RM b0 U E B g s W → Calls Tryz.prog 84 #[.pointer (some ⟨B, 0, none⟩), .int .u16 x] W (LeavesV b0 U E B g (rin s x) (.bool (decide (ramOk x))))) := Lib.hid fun W x hW => in_z hW x
 have H := Lib.hid h
 have HA := Lib.hid ha
 have HN := Lib.hid hn
 have HRB := Lib.hid hr
 have x1' : IntKind.u16.wrap a = a := by rw [IntKind.wrap_u16]; have := ha.1; have := ha.2; omega
 have e0 : (a + (0 : Nat)) % 65536 = a := by have := ha.1; have := ha.2; omega
 have HE0 := Lib.hid e0
 obtain ⟨b, hb⟩ : ∃ b, (a + (1 : Nat)) % 65536 = b := ⟨_, rfl⟩
 have HB := Lib.hid hb
 have x2 : IntKind.u16.wrap (a + 1) = b := by rw [IntKind.wrap_u16]; exact hb
 clear h ha hr e0 hb
 go_enter Tryz.func56, Tryz.ntmps56
 go_wp2_with fail
 go_loopw [7, 8, 9] (fun v_ k_ o_ wr => ∃ (j : Nat) (v : Int), j ≤ n ∧ k_ = .int .i64 (j : Int) ∧ v_ = .int .u16 v ∧ RM b0 U E B g s wr ∧ (j = 0 → v = 0) ∧ (1 ≤ j → ramOk a ∧ (j = 1 → v = ramAt s.m a 0) ∧ (j = 2 → ramOk b ∧ v = ramAt s.m a 0 + ramAt s.m a 1 * 256))) (fun v_ k_ o_ _ => n - (intOf k_).toNat)
 case atStart => exact ⟨0, 0, by omega, rfl, rfl, H.out, fun _ => rfl, fun h => by omega⟩
 case round =>
  obtain ⟨j, v, hj, rfl, rfl, hrm, h0, h1⟩ := hrel
  have HR := Lib.hid hrm
  have HH := Lib.hid (And.intro h0 h1)
  clear h0 h1 hrm
  have hjj : j = 0 ∨ (j = 1 ∧ n = 2) ∨ j = n := by omega
  rcases hjj with rfl | ⟨rfl, hn2⟩ | rfl
  ·obtain rfl := HH.out.1 rfl
   have t0 : decide ((0 : Int) < (n : Int)) = true := decide_eq_true (by have := HN.out; omega)
   have t1 : decide (0 < n) = true := decide_eq_true (by have := HN.out; omega)
   have t2 : (0 < n) = True := eq_true (by have := HN.out; omega)
   have HII := Lib.hid (HI.out _ a HR.out)
   clear hj
   go_wp2_with fail
   refine HII.out.mono ?_
   by_cases hok : ramOk a
   rotate_left
   ·rw [rin_no hok, decide_eq_false hok]
    rintro e w ⟨rfl, hw⟩
    have HW := Lib.hid hw
    have HNO := Lib.hid hok
    clear hw hok
    go_wp2_with fail
    have hr : rread s a n = (rfail s 2 a, 0) := by
     unfold rread
     have hz : ramBad a 0 n = some a := by
      obtain ⟨k, rfl⟩ : ∃ k, n = k + 1 := ⟨n - 1, by have := HN.out; omega⟩
      unfold ramBad
      rw [HE0.out, if_neg HNO.out]
     rw [hz]
    exact bodyPost_ret (v := .int .u16 0) (by simp [results, Tryz.results56, go_sem]) rfl ⟨by rw [hr], by rw [hr]; exact HW.out⟩
   rw [rin_ok hok, decide_eq_true hok]
   rintro e w ⟨rfl, hw⟩
   have HW := Lib.hid hw
   have HOK := Lib.hid hok
   obtain ⟨q, hq, xq, hqn⟩ := ram_idx hok
   have HQ := Lib.hid (And.intro hq hqn)
   have c23 := HW.out.cell 23 (.slice (some ⟨g, 0, none⟩) 8192 8192) (fun _ _ => rfl)
   have cq := HW.out.ramc q hq
   have i0 : (0 : Int) ≤ (q : Int) := by omega
   have i1 : (q : Int) < 8192 := by omega
   have hb0 := HRB.out q
   have x8 : IntKind.u16.wrap (s.m.ram q) = s.m.ram q := by rw [IntKind.wrap_u16]; omega
   clear hw hok hq hqn
   go_wp2_with fail
   go_roundw
   case rel => exact ⟨1, _, by have := HN.out; omega, rfl, rfl, HW.out, fun h => by omega, fun _ => ⟨HOK.out, fun _ => by unfold ramAt; rw [HE0.out, HQ.out.2], fun h => by omega⟩⟩
   case measure => have := HN.out; simp only [intOf]; omega
  ·obtain ⟨hok0, hv, _⟩ := HH.out.2 (by omega)
   obtain rfl := hv rfl
   have HOK0 := Lib.hid hok0
   obtain ⟨v, hv9⟩ : ∃ v, ramAt s.m a 0 = v := ⟨_, rfl⟩
   have HV := Lib.hid hv9
   have hv0 : 0 ≤ v ∧ v < 256 := by rw [← hv9]; exact HRB.out _
   rw [hv9]
   have t0 : decide ((1 : Int) < (n : Int)) = true := decide_eq_true (by omega)
   have t1 : decide (1 < n) = true := decide_eq_true (by omega)
   have t2 : (1 < n) = True := eq_true (by omega)
   have HN2 := Lib.hid hn2
   clear hn2
   have HII := Lib.hid (HI.out _ b HR.out)
   clear hj hv hok0 hv9
   go_wp2_with fail
   refine HII.out.mono ?_
   by_cases hok : ramOk b
   rotate_left
   ·rw [rin_no hok, decide_eq_false hok]
    rintro e w ⟨rfl, hw⟩
    have HW := Lib.hid hw
    have HNO := Lib.hid hok
    clear hw hok
    go_wp2_with fail
    have hr : rread s a n = (rfail s 2 b, 0) := by
     rw [HN2.out]
     unfold rread
     have hz : ramBad a 0 2 = some b := by
      unfold ramBad
      rw [HE0.out, if_pos HOK0.out]
      unfold ramBad
      rw [HB.out, if_neg HNO.out]
     rw [hz]
    exact bodyPost_ret (v := .int .u16 0) (by simp [results, Tryz.results56, go_sem]) rfl ⟨by rw [hr], by rw [hr]; exact HW.out⟩
   rw [rin_ok hok, decide_eq_true hok]
   rintro e w ⟨rfl, hw⟩
   have HW := Lib.hid hw
   have HOK := Lib.hid hok
   obtain ⟨q, hq, xq, hqn⟩ := ram_idx hok
   have HQ := Lib.hid (And.intro hq hqn)
   have c23 := HW.out.cell 23 (.slice (some ⟨g, 0, none⟩) 8192 8192) (fun _ _ => rfl)
   have cq := HW.out.ramc q hq
   have i0 : (0 : Int) ≤ (q : Int) := by omega
   have i1 : (q : Int) < 8192 := by omega
   have hb0 := HRB.out q
   have x8 : IntKind.u16.wrap (s.m.ram q) = s.m.ram q := by rw [IntKind.wrap_u16]; omega
   clear hw hok hq hqn
   go_wp2_with fail
   go_roundw
   case rel => exact ⟨2, _, by have := HN2.out; omega, rfl, rfl, HW.out, fun h => by omega, fun _ => ⟨HOK0.out, fun h => by omega, fun _ => ⟨HOK.out, by unfold ramAt; rw [HB.out, HQ.out.2]⟩⟩⟩
   case measure => have := HN2.out; simp only [intOf]; omega
  ·have t0 : decide ((j : Int) < (j : Int)) = false := decide_eq_false (by omega)
   have t1 : decide (j < j) = false := decide_eq_false (by omega)
   obtain ⟨hok0, hv1, hv2⟩ := HH.out.2 (by have := HN.out; omega)
   have hr : rread s a j = (s, v) := by
    unfold rread
    rcases HN.out with rfl | rfl
    ·have hz : ramBad a 0 1 = none := by
      unfold ramBad
      rw [HE0.out, if_pos hok0]
      rfl
     rw [hz, hv1 rfl]
     rfl
    ·obtain ⟨hok1, rfl⟩ := hv2 rfl
     have hz : ramBad a 0 2 = none := by
      unfold ramBad
      rw [HE0.out, if_pos hok0]
      unfold ramBad
      rw [HB.out, if_pos hok1]
      rfl
     rw [hz]
     rfl
   have HRR := Lib.hid hr
   clear hj hok0 hv1 hv2 hr
   go_wp2_with fail
   exact bodyPost_ret (v := .int .u16 v) (by simp [results, Tryz.results56, go_sem]) rfl ⟨by rw [HRR.out], by rw [HRR.out]; exact HR.out⟩
theorem RM.putRam {b0 : Nat} {U V W : World} {E : Env} {B g : Nat} {s : RSt} (h : RM b0 U E B g s V) (j : Nat) (x : Int) (e : V.setCell ⟨g, j, none⟩ (.int .u8 x) = W) : RM b0 U E B g { s with m := { s.m with ram := setRam s.m.ram j x } } W := by
 obtain ⟨⟨sv, ov, h⟩, hb⟩ := h
 obtain ⟨cur, h1, h2, h3⟩ := h.ram
 refine ⟨⟨sv, ov, ⟨sc_oth (fun e9 => h.ne e9.symm) h.blk e, ⟨_, sc_blk h1 e, by simpa using h2, fun i hi => ?_⟩, ?_, ?_, h.low⟩⟩, hb.set h1 h.low.2 (.inr (.inl rfl)) e⟩
 ·show (cur.setIfInBounds j (.int .u8 x))[i]? = some (.int .u8 (setRam s.m.ram j x i))
  unfold setRam
  by_cases hij : i = j
  ·subst hij
   rw [if_pos rfl]
   simp [h2, hi]
  ·rw [if_neg hij, Array.getElem?_setIfInBounds_ne (fun e => hij e.symm)]
   exact h3 i hi
 ·rw [← e]; exact own_set' h.st h1 (by decide)
 ·rw [← e]; exact own_set' h.out h1 (by decide)
theorem RM.frzg {b0 : Nat} {U V : World} {E : Env} {B g : Nat} {s : RSt} (h : RM b0 U E B g s V) (j : Nat) : V.frozen? ⟨g, j, none⟩ = false := by
 obtain ⟨⟨sv, ov, h⟩, _⟩ := h
 obtain ⟨cur, h1, _⟩ := h.ram
 exact at_fr h1 j
def rwrite (s : RSt) (a : Int) (n : Nat) (v : Int) : RSt := match ramBad a 0 n with | some x => rfail s 2 x | none => { s with m := { s.m with ram := wrRam s.m.ram a v n } }
set_option maxRecDepth 100000 in
set_option maxHeartbeats 8000000 in
theorem write_z {b0 : Nat} {U V : World} {E : Env} {B g : Nat} {s : RSt} (h : RM b0 U E B g s V) (a : Int) (ha : OkU16 a) (n : Nat) (hn : n = 1 ∨ n = 2) (v : Int) (hv : OkU16 v) : Calls Tryz.prog 57 #[.pointer (some ⟨B, 0, none⟩), .int .u16 a, .int .i64 (n : Int), .int .u16 v] V (Leaves0 b0 U E B g (rwrite s a n v)) := by
 have HI : Hid (∀ W x, RM b0 U E B g s W → Calls Tryz.prog 84 #[.pointer (some ⟨B, 0, none⟩), .int .u16 x] W (LeavesV b0 U E B g (rin s x) (.bool (decide (ramOk x))))) := Lib.hid fun W x hW => in_z hW x
 have H := Lib.hid h
 have HV := Lib.hid hv
 have HN := Lib.hid hn
 have x1' : IntKind.u16.wrap a = a := by rw [IntKind.wrap_u16]; have := ha.1; have := ha.2; omega
 have e0 : (a + (0 : Nat)) % 65536 = a := by have := ha.1; have := ha.2; omega
 have HE0 := Lib.hid e0
 obtain ⟨b, hb⟩ : ∃ b, (a + (1 : Nat)) % 65536 = b := ⟨_, rfl⟩
 have HB := Lib.hid hb
 have x2 : IntKind.u16.wrap (a + 1) = b := by rw [IntKind.wrap_u16]; exact hb
 have w0 : IntKind.u16.wrap 0 = 0 := rfl
 have w1 : IntKind.u16.wrap 1 = 1 := rfl
 have a0 : a + 0 = a := by omega
 have ws0 : IntKind.i64.wrap 0 = 0 := rfl
 have ws8 : IntKind.i64.wrap 8 = 8 := rfl
 have f0 : v.fdiv (2 ^ min (0 : Int).toNat 16) = v := by rw [show (2 : Int) ^ min (0 : Int).toNat 16 = 1 from rfl, Int.fdiv_one]
 have f8 : v.fdiv (2 ^ min (8 : Int).toNat 16) = v / 256 := by rw [show (2 : Int) ^ min (8 : Int).toNat 16 = 256 from rfl, Int.fdiv_eq_ediv_of_nonneg _ (by decide)]
 have f1 : v.fdiv 1 = v := Int.fdiv_one _
 have f9 : v.fdiv 256 = v / 256 := Int.fdiv_eq_ediv_of_nonneg _ (by decide)
 have k8 : IntKind.u8.wrap v = v % 256 := IntKind.wrap_u8 v
 have k9 : IntKind.u8.wrap (v / 256) = v / 256 := by rw [IntKind.wrap_u8]; have := hv.1; have := hv.2; omega
 clear h ha hv e0 hb
 go_enter Tryz.func57, Tryz.ntmps57
 go_wp2_with fail
 go_loopw [8, 9] (fun k_ o_ wr => ∃ j : Nat, j ≤ n ∧ k_ = .int .i64 (j : Int) ∧ RM b0 U E B g s wr ∧ (1 ≤ j → ramOk a) ∧ (j = 2 → ramOk b)) (fun k_ o_ _ => n - (intOf k_).toNat)
 case atStart => exact ⟨0, by omega, rfl, H.out, fun h => by omega, fun h => by omega⟩
 case round =>
  obtain ⟨j, hj, rfl, hrm, h0, h1⟩ := hrel
  have HR := Lib.hid hrm
  have HH := Lib.hid (And.intro h0 h1)
  clear h0 h1 hrm
  have hjj : j = 0 ∨ (j = 1 ∧ n = 2) ∨ j = n := by omega
  rcases hjj with rfl | ⟨rfl, hn2⟩ | rfl
  ·have t0 : decide ((0 : Int) < (n : Int)) = true := decide_eq_true (by have := HN.out; omega)
   have t1 : decide (0 < n) = true := decide_eq_true (by have := HN.out; omega)
   have t2 : (0 < n) = True := eq_true (by have := HN.out; omega)
   have HII := Lib.hid (HI.out _ a HR.out)
   clear hj
   go_wp2_with fail
   refine HII.out.mono ?_
   by_cases hok : ramOk a
   rotate_left
   ·rw [rin_no hok, decide_eq_false hok]
    rintro e w ⟨rfl, hw⟩
    have HW := Lib.hid hw
    have HNO := Lib.hid hok
    clear hw hok
    go_wp2_with fail
    have hr : rwrite s a n v = rfail s 2 a := by
     unfold rwrite
     have hz : ramBad a 0 n = some a := by
      obtain ⟨k, rfl⟩ : ∃ k, n = k + 1 := ⟨n - 1, by have := HN.out; omega⟩
      unfold ramBad
      rw [HE0.out, if_neg HNO.out]
     rw [hz]
    exact ends (v := .tuple #[]) (by simp [results, Tryz.results57]) rfl ⟨rfl, by rw [hr]; exact HW.out⟩
   rw [rin_ok hok, decide_eq_true hok]
   rintro e w ⟨rfl, hw⟩
   have HW := Lib.hid hw
   have HOK := Lib.hid hok
   clear hw hok
   go_wp2_with fail
   go_roundw
   case rel => exact ⟨1, by have := HN.out; omega, rfl, HW.out, fun _ => HOK.out, fun h => by omega⟩
   case measure => have := HN.out; simp only [intOf]; omega
  ·have t0 : decide ((1 : Int) < (n : Int)) = true := decide_eq_true (by omega)
   have t1 : decide (1 < n) = true := decide_eq_true (by omega)
   have t2 : (1 < n) = True := eq_true (by omega)
   have HN2 := Lib.hid hn2
   clear hn2
   have HII := Lib.hid (HI.out _ b HR.out)
   clear hj
   go_wp2_with fail
   refine HII.out.mono ?_
   by_cases hok : ramOk b
   rotate_left
   ·rw [rin_no hok, decide_eq_false hok]
    rintro e w ⟨rfl, hw⟩
    have HW := Lib.hid hw
    have HNO := Lib.hid hok
    clear hw hok
    go_wp2_with fail
    have hr : rwrite s a n v = rfail s 2 b := by
     rw [HN2.out]
     unfold rwrite
     have hz : ramBad a 0 2 = some b := by
      unfold ramBad
      rw [HE0.out, if_pos (HH.out.1 (Nat.le_refl 1))]
      unfold ramBad
      rw [HB.out, if_neg HNO.out]
     rw [hz]
    exact ends (v := .tuple #[]) (by simp [results, Tryz.results57]) rfl ⟨rfl, by rw [hr]; exact HW.out⟩
   rw [rin_ok hok, decide_eq_true hok]
   rintro e w ⟨rfl, hw⟩
   have HW := Lib.hid hw
   have HOK := Lib.hid hok
   clear hw hok
   go_wp2_with fail
   go_roundw
   case rel => exact ⟨2, by have := HN2.out; omega, rfl, HW.out, fun _ => HH.out.1 (Nat.le_refl 1), fun _ => HOK.out⟩
   case measure => have := HN2.out; simp only [intOf]; omega
  ·have t0 : decide ((j : Int) < (j : Int)) = false := decide_eq_false (by omega)
   have t1 : decide (j < j) = false := decide_eq_false (by omega)
   have hok0 := HH.out.1 (by have := HN.out; omega)
   obtain ⟨q0, hq0, xq0, hqn0⟩ := ram_idx hok0
   have HQ0 := Lib.hid (And.intro hq0 hqn0)
   have hr : rwrite s a j v = { s with m := { s.m with ram := wrRam s.m.ram a v j } } := by
    unfold rwrite
    have hz : ramBad a 0 j = none := by
     rcases HN.out with rfl | rfl
     ·unfold ramBad
      rw [HE0.out, if_pos hok0]
      rfl
     ·unfold ramBad
      rw [HE0.out, if_pos hok0]
      unfold ramBad
      rw [HB.out, if_pos (HH.out.2 rfl)]
      rfl
    rw [hz]
   have HRW := Lib.hid hr
   have hw1 : wrRam s.m.ram a v 1 = setRam s.m.ram q0 (v % 256) := by
    show setRam s.m.ram ((a + (0 : Nat)) % 65536 - 16384).toNat (v % 256) = _
    rw [HE0.out, hqn0]
   have HW1 := Lib.hid hw1
   have HOK0 := Lib.hid hok0
   clear hj hr hw1 hq0 hqn0 hok0
   go_wp2_with fail
   go_loopw [10] (fun k_ wr => ∃ i : Nat, i ≤ j ∧ k_ = .int .i64 (i : Int) ∧ RM b0 U E B g { s with m := { s.m with ram := wrRam s.m.ram a v i } } wr) (fun k_ _ => j - (intOf k_).toNat)
   case atStart => exact ⟨0, by omega, rfl, HR.out⟩
   case round =>
    obtain ⟨i, hi, rfl, hrm⟩ := hrel
    have HR2 := Lib.hid hrm
    clear hrm
    have hii : i = 0 ∨ (i = 1 ∧ j = 2) ∨ i = j := by omega
    rcases hii with rfl | ⟨rfl, hn2⟩ | rfl
    ·have t2 : decide ((0 : Int) < (j : Int)) = true := decide_eq_true (by have := HN.out; omega)
     have t3 : decide (0 < j) = true := decide_eq_true (by have := HN.out; omega)
     have t4 : (0 < j) = True := eq_true (by have := HN.out; omega)
     clear hi
     have HC : Hid (∀ W, Below wr.heap.size wr W → W.cell? ⟨B, 23, none⟩ = some (.slice (some ⟨g, 0, none⟩) 8192 8192) ∧ (∃ u, W.cell? ⟨g, q0, none⟩ = some u) ∧ W.frozen? ⟨g, q0, none⟩ = false) := Lib.hid fun W hW => ⟨(HR2.out.next hW).cell 23 _ (fun _ _ => rfl), ⟨_, (HR2.out.next hW).ramc q0 HQ0.out.1⟩, (HR2.out.next hW).frzg q0⟩
     have i0 : (0 : Int) ≤ (q0 : Int) := by omega
     have i1 : (q0 : Int) < 8192 := by have := HQ0.out.1; omega
     go_upto_region 8 with (fail)
     refine' wp_region_flowR [[], [(29, 0)], [(30, 1)], [(31, 2)], [], [], [(34, 5)], [(33, 4), (35, 6)], [(36, 7)], [], [], [(39, 10)], [(38, 9), (40, 11)], [(41, 12)], [(32, 3), (37, 8)], [(29, 0), (30, 1), (31, 2), (32, 3), (33, 4), (34, 5), (35, 6), (36, 7), (37, 8), (38, 9), (39, 10), (40, 11), (41, 12), (42, 13), (43, 14)]] (relL [eqV _, eqV _, eqV _, eqV _, eqV _, eqV _, eqV _, eqV _, eqV _, eqV _, eqV _, eqV _, eqV _, eqV _, eqV _]) (by kernel_rfl) (by kernel_rfl) ?_
     rotate_left 15
     iterate 15
      refine FlowR.step ?_ ?_
      ·intro V hV
       simp only [Dep, lQ]
       repeat rintro _ ⟨_, rfl, _⟩
       intro K hK
       obtain ⟨c23, ⟨u, cq⟩, zq⟩ := HC.out _ hV
       go_simp
       refine hK _ _ ?_ (Below.refl _ _)
       simp only [lR]
       exact rfl
     refine FlowR.last ?_
     intro V hV
     simp only [Dep, lQ]
     repeat rintro _ ⟨_, rfl, _⟩
     intro K hK
     obtain ⟨c23, ⟨u, cq⟩, zq⟩ := HC.out _ hV
     go_simp
     refine hK _ _ ?_
     have HX := Lib.hid ((HR2.out.next hV).putRam q0 (v % 256) rfl)
     clear hK hV cq zq c23
     go_wp2_with fail
     go_roundw
     case rel => exact ⟨1, by have := HN.out; omega, rfl, by rw [HW1.out]; exact HX.out⟩
     case measure => have := HN.out; simp only [intOf]; omega
    ·have t2 : decide ((1 : Int) < (j : Int)) = true := decide_eq_true (by omega)
     have t3 : decide (1 < j) = true := decide_eq_true (by omega)
     have t4 : (1 < j) = True := eq_true (by omega)
     have HN2 := Lib.hid hn2
     clear hn2 hi
     obtain ⟨q1, hq1, xq1, hqn1⟩ := ram_idx (HH.out.2 HN2.out)
     have HW2 : Hid (wrRam s.m.ram a v 2 = setRam (wrRam s.m.ram a v 1) q1 (v / 256)) := Lib.hid (by
      show setRam _ ((a + (1 : Nat)) % 65536 - 16384).toNat (v / 256) = _
      rw [HB.out, hqn1]
      rfl)
     have HC : Hid (∀ W, Below wr.heap.size wr W → W.cell? ⟨B, 23, none⟩ = some (.slice (some ⟨g, 0, none⟩) 8192 8192) ∧ (∃ u, W.cell? ⟨g, q1, none⟩ = some u) ∧ W.frozen? ⟨g, q1, none⟩ = false) := Lib.hid fun W hW => ⟨(HR2.out.next hW).cell 23 _ (fun _ _ => rfl), ⟨_, (HR2.out.next hW).ramc q1 hq1⟩, (HR2.out.next hW).frzg q1⟩
     have i0 : (0 : Int) ≤ (q1 : Int) := by omega
     have i1 : (q1 : Int) < 8192 := by omega
     clear hq1 hqn1
     go_upto_region 8 with (fail)
     refine' wp_region_flowR [[], [(29, 0)], [(30, 1)], [(31, 2)], [], [], [(34, 5)], [(33, 4), (35, 6)], [(36, 7)], [], [], [(39, 10)], [(38, 9), (40, 11)], [(41, 12)], [(32, 3), (37, 8)], [(29, 0), (30, 1), (31, 2), (32, 3), (33, 4), (34, 5), (35, 6), (36, 7), (37, 8), (38, 9), (39, 10), (40, 11), (41, 12), (42, 13), (43, 14)]] (relL [eqV _, eqV _, eqV _, eqV _, eqV _, eqV _, eqV _, eqV _, eqV _, eqV _, eqV _, eqV _, eqV _, eqV _, eqV _]) (by kernel_rfl) (by kernel_rfl) ?_
     rotate_left 15
     iterate 15
      refine FlowR.step ?_ ?_
      ·intro V hV
       simp only [Dep, lQ]
       repeat rintro _ ⟨_, rfl, _⟩
       intro K hK
       obtain ⟨c23, ⟨u, cq⟩, zq⟩ := HC.out _ hV
       go_simp
       refine hK _ _ ?_ (Below.refl _ _)
       simp only [lR]
       exact rfl
     refine FlowR.last ?_
     intro V hV
     simp only [Dep, lQ]
     repeat rintro _ ⟨_, rfl, _⟩
     intro K hK
     obtain ⟨c23, ⟨u, cq⟩, zq⟩ := HC.out _ hV
     go_simp
     refine hK _ _ ?_
     have HX := Lib.hid ((HR2.out.next hV).putRam q1 (v / 256) rfl)
     clear hK hV cq zq c23
     go_wp2_with fail
     go_roundw
     case rel => exact ⟨2, by have := HN2.out; omega, rfl, by rw [HW2.out]; exact HX.out⟩
     case measure => have := HN2.out; simp only [intOf]; omega
    ·have t2 : decide ((i : Int) < (i : Int)) = false := decide_eq_false (by omega)
     have t3 : decide (i < i) = false := decide_eq_false (by omega)
     clear hi
     go_wp2_with fail
     exact ends (v := .tuple #[]) (by simp [results, Tryz.results57]) rfl ⟨rfl, by rw [HRW.out]; exact HR2.out⟩
def rrom (E : Env) (s : RSt) (bank a : Int) (n : Nat) : RSt × Int := match conBad E bank a 0 n with | some x => (rfail s 2 x, 0) | none => (s, rdRom E bank a n)
/-- What the code sees of a bank. -/
structure BankIn (V : World) (E : Env) (k : Nat) (q : Nat) (S : ByteArray) : Prop where
 pb : E.pb = some ⟨q, 0, none⟩
 cell : V.cell? ⟨q, k, none⟩ = some (.string S)
 at' : bankAt E.banks (k : Int) = S
 size : S.size ≤ maxLen
theorem bank_in {b0 : Nat} {U V : World} {E : Env} (hE : StrsLow b0 U E.pb E.banks) (hb : Kz b0 U V) {k : Nat} (hk : k < E.banks.length) : ∃ q S, BankIn V E k q S := by
 obtain ⟨q, e, hq, hc, hm⟩ := hE k _ (List.getElem?_eq_getElem hk)
 exact ⟨q, _, e, hb.cell hq hc, by unfold bankAt; rw [Int.toNat_natCast, List.getElem?_eq_getElem hk]; rfl, hm⟩
set_option maxRecDepth 8000 in
set_option maxHeartbeats 8000000 in
theorem rom_z {b0 : Nat} {U V : World} {E : Env} {B g : Nat} {s : RSt} (h : RM b0 U E B g s V) (hE : StrsLow b0 U E.pb E.banks) (hl : E.banks.length ≤ maxLen) (k : Nat) (hk : k < 64) (a : Int) (ha : OkU16 a) (n : Nat) (hn : n = 1 ∨ n = 2) : Calls Tryz.prog 58 #[.pointer (some ⟨B, 0, none⟩), .int .i64 (k : Int), .int .u16 a, .int .i64 (n : Int)] V (LeavesV b0 U E B g (rrom E s k a n).1 (.int .u16 (rrom E s k a n).2)) := by
 have H := Lib.hid h
 have HBK : Hid (k < E.banks.length → ∃ q S, BankIn V E k q S) := Lib.hid fun hk => bank_in hE h.2 hk
 have HN := Lib.hid hn
 have c0 := h.cell 0 (.slice E.pb E.banks.length E.cb) (fun _ _ => rfl)
 have x1' : IntKind.u16.wrap a = a := by rw [IntKind.wrap_u16]; have := ha.1; have := ha.2; omega
 have e0 : (a + (0 : Nat)) % 65536 = a := by have := ha.1; have := ha.2; omega
 have HE0 := Lib.hid e0
 obtain ⟨b, hb⟩ : ∃ b, (a + (1 : Nat)) % 65536 = b := ⟨_, rfl⟩
 have HB := Lib.hid hb
 have x2 : IntKind.u16.wrap (a + 1) = b := by rw [IntKind.wrap_u16]; exact hb
 have w0 : IntKind.u16.wrap 0 = 0 := rfl
 have w1 : IntKind.u16.wrap 1 = 1 := rfl
 have a0 : a + 0 = a := by omega
 have HAB : Hid (OkU16 a ∧ OkU16 b) := Lib.hid ⟨ha, by rw [← hb]; exact ⟨by omega, by omega⟩⟩
 have ia : IntKind.i64.wrap a = a := IntWalk.i64_in _ (by have := ha.1; have := ha.2; omega)
 have ib : IntKind.i64.wrap b = b := IntWalk.i64_in _ (by have := HAB.out.2.1; have := HAB.out.2.2; omega)
 clear h ha hE hl e0 hb hk
 go_enter Tryz.func58, Tryz.ntmps58
 go_wp2_with fail
 go_loopw [9, 10, 11] (fun v_ k_ o_ wr => ∃ (j : Nat) (v : Int), j ≤ n ∧ k_ = .int .i64 (j : Int) ∧ v_ = .int .u16 v ∧ V = wr ∧ (j = 0 → v = 0) ∧ (1 ≤ j → romOk E k a ∧ (j = 1 → v = romAt E k a 0) ∧ (j = 2 → romOk E k b ∧ v = romAt E k a 0 + romAt E k a 1 * 256))) (fun v_ k_ o_ _ => n - (intOf k_).toNat)
 case atStart => exact ⟨0, 0, by omega, rfl, rfl, rfl, fun _ => rfl, fun h => by omega⟩
 case round =>
  obtain ⟨j, v, hj, rfl, rfl, rfl, h0, h1⟩ := hrel
  have HH := Lib.hid (And.intro h0 h1)
  clear h0 h1
  have hjj : j = 0 ∨ (j = 1 ∧ n = 2) ∨ j = n := by omega
  rcases hjj with rfl | ⟨rfl, hn2⟩ | rfl
  ·obtain rfl := HH.out.1 rfl
   have t0 : decide ((0 : Int) < (n : Int)) = true := decide_eq_true (by have := HN.out; omega)
   have t1 : decide (0 < n) = true := decide_eq_true (by have := HN.out; omega)
   have t2 : (0 < n) = True := eq_true (by have := HN.out; omega)
   clear hj
   by_cases hok : romOk E k a
   rotate_left
   ·have HNO := Lib.hid hok
    have hr : rrom E s k a n = (rfail s 2 a, 0) := by
     unfold rrom
     have hz : conBad E k a 0 n = some a := by
      obtain ⟨z, rfl⟩ : ∃ z, n = z + 1 := ⟨n - 1, by have := HN.out; omega⟩
      unfold conBad
      rw [HE0.out, if_neg HNO.out]
     rw [hz]
    have HRR := Lib.hid hr
    clear hr
    by_cases hlen : (E.banks.length : Int) ≤ (k : Int)
    ·have d1 : decide ((E.banks.length : Int) ≤ (k : Int)) = true := decide_eq_true hlen
     have d2 : decide (E.banks.length ≤ k) = true := decide_eq_true (by omega)
     clear hlen hok
     go_wp2_with fail
     refine (fail_z H.out 2 a).mono ?_
     rintro e w ⟨rfl, hw⟩
     have HW := Lib.hid hw
     clear hw
     go_wp2_with fail
     exact bodyPost_ret (v := .int .u16 0) (by simp [results, Tryz.results58, go_sem]) rfl ⟨by rw [HRR.out], by rw [HRR.out]; exact HW.out⟩
    have d1 : decide ((E.banks.length : Int) ≤ (k : Int)) = false := decide_eq_false hlen
    have d2 : decide (E.banks.length ≤ k) = false := decide_eq_false (by omega)
    obtain ⟨q, S, hB⟩ := HBK.out (by omega)
    have cS := hB.cell
    rw [hB.pb] at c0
    have i0 : (0 : Int) ≤ (k : Int) := by omega
    have i1 : (k : Int) < (E.banks.length : Int) := by omega
    have i2 : k < E.banks.length := by omega
    have hbS := hB.at'
    unfold romOk at hok
    rw [hbS] at hok
    have HAT := Lib.hid hbS
    clear hB hbS
    by_cases hsz : (S.size : Int) ≤ a
    ·have d3 : decide ((S.size : Int) ≤ a) = true := decide_eq_true hsz
     clear hlen hok hsz
     go_wp2_with fail
     refine (fail_z H.out 2 a).mono ?_
     rintro e w ⟨rfl, hw⟩
     have HW := Lib.hid hw
     clear hw
     go_wp2_with fail
     exact bodyPost_ret (v := .int .u16 0) (by simp [results, Tryz.results58, go_sem]) rfl ⟨by rw [HRR.out], by rw [HRR.out]; exact HW.out⟩
    have d3 : decide ((S.size : Int) ≤ a) = false := decide_eq_false hsz
    have d4 : decide ((4096 : Int) ≤ a) = true := decide_eq_true (by omega)
    clear hlen hok hsz
    go_wp2_with fail
    refine (fail_z H.out 2 a).mono ?_
    rintro e w ⟨rfl, hw⟩
    have HW := Lib.hid hw
    clear hw
    go_wp2_with fail
    exact bodyPost_ret (v := .int .u16 0) (by simp [results, Tryz.results58, go_sem]) rfl ⟨by rw [HRR.out], by rw [HRR.out]; exact HW.out⟩
   have hok9 := hok
   have HOK := Lib.hid hok
   unfold romOk at hok9
   have hlen : k < E.banks.length := by omega
   obtain ⟨q, S, hB⟩ := HBK.out hlen
   have cS := hB.cell
   rw [hB.pb] at c0
   have hbS := hB.at'
   rw [hbS] at hok9
   have HAT := Lib.hid hbS
   have d1 : decide ((E.banks.length : Int) ≤ (k : Int)) = false := decide_eq_false (by omega)
   have d2 : decide (E.banks.length ≤ k) = false := decide_eq_false (by omega)
   have i0 : (0 : Int) ≤ (k : Int) := by omega
   have i1 : (k : Int) < (E.banks.length : Int) := by omega
   have d3 : decide ((S.size : Int) ≤ a) = false := decide_eq_false (by omega)
   have d4 : decide ((4096 : Int) ≤ a) = false := decide_eq_false (by omega)
   obtain ⟨y, hy⟩ : ∃ y : Nat, a = (y : Int) := ⟨(a).toNat, by have := HAB.out.1.1; have := HAB.out.2.1; omega⟩
   have hys : y < S.size := by omega
   have j0 : (0 : Int) ≤ a := by omega
   have j1 : a < (S.size : Int) := by omega
   have hbb := byteI_bd S y
   have hb9 : ∀ h9 : (a).toNat < S.size, ((S[(a).toNat]'h9).toNat : Int) = byteI S y := fun h9 => by
    have h8 := byteI_at S y hys
    simp only [hy, Int.toNat_natCast]
    exact h8
   have j9 : (a).toNat < S.size := by omega
   have HY : Hid (romAt E k a 0 = byteI S y) := Lib.hid (by unfold romAt; rw [HE0.out, hbS, hy, Int.toNat_natCast])
   clear hB hbS hok hok9 hlen hy
   go_wp2_with fail
   go_roundw
   case rel => exact ⟨1, _, by have := HN.out; omega, rfl, rfl, trivial, fun h => by omega, fun _ => ⟨HOK.out, fun _ => HY.out.symm, fun h => by omega⟩⟩
   case measure => have := HN.out; simp only [intOf]; omega
  ·have t0 : decide ((1 : Int) < (n : Int)) = true := decide_eq_true (by omega)
   have t1 : decide (1 < n) = true := decide_eq_true (by omega)
   have t2 : (1 < n) = True := eq_true (by omega)
   have HN2 := Lib.hid hn2
   obtain ⟨hok0, hv, _⟩ := HH.out.2 (Nat.le_refl 1)
   obtain rfl := hv rfl
   have HOK0 := Lib.hid hok0
   have hv0 : 0 ≤ romAt E k a 0 ∧ romAt E k a 0 < 256 := byteI_bd _ _
   obtain ⟨v, hv9⟩ : ∃ v, romAt E k a 0 = v := ⟨_, rfl⟩
   have HV := Lib.hid hv9
   rw [hv9] at hv0 ⊢
   clear hn2 hj hok0 hv hv9
   by_cases hok : romOk E k b
   rotate_left
   ·have HNO := Lib.hid hok
    have hr : rrom E s k a n = (rfail s 2 b, 0) := by
     unfold rrom
     have hz : conBad E k a 0 n = some b := by
      rw [HN2.out]
      unfold conBad
      rw [HE0.out, if_pos HOK0.out]
      unfold conBad
      rw [HB.out, if_neg HNO.out]
     rw [hz]
    have HRR := Lib.hid hr
    clear hr
    by_cases hlen : (E.banks.length : Int) ≤ (k : Int)
    ·have d1 : decide ((E.banks.length : Int) ≤ (k : Int)) = true := decide_eq_true hlen
     have d2 : decide (E.banks.length ≤ k) = true := decide_eq_true (by omega)
     clear hlen hok
     go_wp2_with fail
     refine (fail_z H.out 2 b).mono ?_
     rintro e w ⟨rfl, hw⟩
     have HW := Lib.hid hw
     clear hw
     go_wp2_with fail
     exact bodyPost_ret (v := .int .u16 0) (by simp [results, Tryz.results58, go_sem]) rfl ⟨by rw [HRR.out], by rw [HRR.out]; exact HW.out⟩
    have d1 : decide ((E.banks.length : Int) ≤ (k : Int)) = false := decide_eq_false hlen
    have d2 : decide (E.banks.length ≤ k) = false := decide_eq_false (by omega)
    obtain ⟨q, S, hB⟩ := HBK.out (by omega)
    have cS := hB.cell
    rw [hB.pb] at c0
    have i0 : (0 : Int) ≤ (k : Int) := by omega
    have i1 : (k : Int) < (E.banks.length : Int) := by omega
    have i2 : k < E.banks.length := by omega
    have hbS := hB.at'
    unfold romOk at hok
    rw [hbS] at hok
    have HAT := Lib.hid hbS
    clear hB hbS
    by_cases hsz : (S.size : Int) ≤ b
    ·have d3 : decide ((S.size : Int) ≤ b) = true := decide_eq_true hsz
     clear hlen hok hsz
     go_wp2_with fail
     refine (fail_z H.out 2 b).mono ?_
     rintro e w ⟨rfl, hw⟩
     have HW := Lib.hid hw
     clear hw
     go_wp2_with fail
     exact bodyPost_ret (v := .int .u16 0) (by simp [results, Tryz.results58, go_sem]) rfl ⟨by rw [HRR.out], by rw [HRR.out]; exact HW.out⟩
    have d3 : decide ((S.size : Int) ≤ b) = false := decide_eq_false hsz
    have d4 : decide ((4096 : Int) ≤ b) = true := decide_eq_true (by omega)
    clear hlen hok hsz
    go_wp2_with fail
    refine (fail_z H.out 2 b).mono ?_
    rintro e w ⟨rfl, hw⟩
    have HW := Lib.hid hw
    clear hw
    go_wp2_with fail
    exact bodyPost_ret (v := .int .u16 0) (by simp [results, Tryz.results58, go_sem]) rfl ⟨by rw [HRR.out], by rw [HRR.out]; exact HW.out⟩
   have hok9 := hok
   have HOK := Lib.hid hok
   unfold romOk at hok9
   have hlen : k < E.banks.length := by omega
   obtain ⟨q, S, hB⟩ := HBK.out hlen
   have cS := hB.cell
   rw [hB.pb] at c0
   have hbS := hB.at'
   rw [hbS] at hok9
   have HAT := Lib.hid hbS
   have d1 : decide ((E.banks.length : Int) ≤ (k : Int)) = false := decide_eq_false (by omega)
   have d2 : decide (E.banks.length ≤ k) = false := decide_eq_false (by omega)
   have i0 : (0 : Int) ≤ (k : Int) := by omega
   have i1 : (k : Int) < (E.banks.length : Int) := by omega
   have d3 : decide ((S.size : Int) ≤ b) = false := decide_eq_false (by omega)
   have d4 : decide ((4096 : Int) ≤ b) = false := decide_eq_false (by omega)
   obtain ⟨y, hy⟩ : ∃ y : Nat, b = (y : Int) := ⟨(b).toNat, by have := HAB.out.1.1; have := HAB.out.2.1; omega⟩
   have hys : y < S.size := by omega
   have j0 : (0 : Int) ≤ b := by omega
   have j1 : b < (S.size : Int) := by omega
   have hbb := byteI_bd S y
   have hb9 : ∀ h9 : (b).toNat < S.size, ((S[(b).toNat]'h9).toNat : Int) = byteI S y := fun h9 => by
    have h8 := byteI_at S y hys
    simp only [hy, Int.toNat_natCast]
    exact h8
   have j9 : (b).toNat < S.size := by omega
   have HY : Hid (romAt E k a 1 = byteI S y) := Lib.hid (by unfold romAt; rw [HB.out, hbS, hy, Int.toNat_natCast])
   clear hB hbS hok hok9 hlen hy
   go_wp2_with fail
   go_roundw
   case rel => exact ⟨2, _, by have := HN2.out; omega, rfl, rfl, trivial, fun h => by omega, fun _ => ⟨HOK0.out, fun h => by omega, fun _ => ⟨HOK.out, by rw [HY.out]⟩⟩⟩
   case measure => have := HN2.out; simp only [intOf]; omega
  ·have t0 : decide ((j : Int) < (j : Int)) = false := decide_eq_false (by omega)
   have t1 : decide (j < j) = false := decide_eq_false (by omega)
   obtain ⟨hok0, hv1, hv2⟩ := HH.out.2 (by have := HN.out; omega)
   have hr : rrom E s k a j = (s, v) := by
    unfold rrom
    rcases HN.out with rfl | rfl
    ·have hz : conBad E k a 0 1 = none := by
      unfold conBad
      rw [HE0.out, if_pos hok0]
      rfl
     rw [hz, hv1 rfl]
     rfl
    ·obtain ⟨hok1, rfl⟩ := hv2 rfl
     have hz : conBad E k a 0 2 = none := by
      unfold conBad
      rw [HE0.out, if_pos hok0]
      unfold conBad
      rw [HB.out, if_pos hok1]
      rfl
     rw [hz]
     rfl
   have HRR := Lib.hid hr
   clear hj hok0 hv1 hv2 hr
   go_wp2_with fail
   exact bodyPost_ret (v := .int .u16 v) (by simp [results, Tryz.results58, go_sem]) rfl ⟨by rw [HRR.out], by rw [HRR.out]; exact H.out⟩
end Go.Proofs.YtieaicdihingkaaGreat
