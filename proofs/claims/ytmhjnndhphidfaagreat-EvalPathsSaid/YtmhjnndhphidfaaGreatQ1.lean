/- Lemmas. -/
import Derived.Test.YtmhjnndhphidfaaGreatE1
import Derived.Test.YtmhjnndhphidfaaGreatA8
import Derived.StillTailTactics
import Derived.Lib.BufferWrite
import Derived.Maps.OwnIn
import Derived.Maps.RangeRun
import Derived.RangeFuncMany
import Derived.RangeFuncKeeps
import Derived.Test.YtmhjnndhphidfaaGreatT1
import Derived.ChangeAlike
import Derived.LoopN
import Derived.BigRegion
import Derived.RegionTactic
namespace Go.Ab
set_option maxRecDepth 8000
open Go.Proofs Go.RowKit Go.Shelf
open Go.ChangeMaps (setBlock)
set_option linter.unusedVariables false
set_option linter.unusedSimpArgs false
attribute [local go_sem] Oper.semAt_some
section
variable {P : Program}
theorem next_first (w : World) (ty : TypeId) (r bm ck : Nat) (e : MapEntry) (hr : w.heap[r]? = some (.mapIter (some bm) ck #[] ck)) (hb : w.heap[bm]? = some (.map #[e] ck)) (he : e.born < ck) :
    (Instr.next (.pointer (some ⟨r, 0, none⟩)) false ty).run P w = .ok (.tuple #[.bool true, e.key, e.val]) (setBlock w r (.mapIter (some bm) ck #[e.born] ck)) := by
  have h : ¬ ck ≤ e.born := by omega
  simp [Instr.next, getObj, Sem.run_bind, Sem.run, hr, hb, Result.andThen, he, h, choose, Question.forced, run_setObj_at hr]
theorem next_last (w : World) (ty : TypeId) (r bm ck : Nat) (e : MapEntry) (hr : w.heap[r]? = some (.mapIter (some bm) ck #[e.born] ck)) (hb : w.heap[bm]? = some (.map #[e] ck)) (he : e.born < ck) :
    (Instr.next (.pointer (some ⟨r, 0, none⟩)) false ty).run P w = .ok (.tuple #[.bool false]) w := by
  have h : ¬ ck ≤ e.born := by omega
  simp [Instr.next, getObj, Sem.run_bind, Sem.run, hr, hb, Result.andThen, he, h, choose, Question.forced, run_setObj_at hr]
theorem next_none (w : World) (ty : TypeId) (r bm ck : Nat) (hr : w.heap[r]? = some (.mapIter (some bm) ck #[] ck)) (hb : w.heap[bm]? = some (.map #[] ck)) :
    (Instr.next (.pointer (some ⟨r, 0, none⟩)) false ty).run P w = .ok (.tuple #[.bool false]) w := by
  simp [Instr.next, getObj, Sem.run_bind, Sem.run, hr, hb, Result.andThen, choose, Question.forced, run_setObj_at hr]
theorem next_nil (w : World) (ty : TypeId) (r a b : Nat) (s : Array Nat) (hr : w.heap[r]? = some (.mapIter none a s b)) :
    (Instr.next (.pointer (some ⟨r, 0, none⟩)) false ty).run P w = .ok (.tuple #[.bool false]) w := by
  simp [Instr.next, getObj, Sem.run_bind, Sem.run, hr, Result.andThen]
theorem entry_one (w : World) (r bm ck : Nat) (e : MapEntry) (hr : w.heap[r]? = some (.mapIter (some bm) ck #[e.born] ck)) (hb : w.heap[bm]? = some (.map #[e] ck)) :
    (Instr.entry (.pointer (some ⟨r, 0, none⟩))).run P w = .ok (.tuple #[e.key, e.val]) w :=
  run_entry_at w r bm ck #[] #[e] ck e hr hb (by simp) (by simp)
end
end Go.Ab
namespace Go.Ab
set_option maxRecDepth 8000
open Go.Proofs Go.RowKit Go.Shelf
open Go.ChangeMaps (setBlock)
set_option linter.unusedVariables false
set_option linter.unusedSimpArgs false
attribute [local go_sem] Oper.semAt_some
theorem setBlock_same {w : World} {r : Nat} {o : Obj} (h : r < w.heap.size) : (setBlock w r o).heap[r]? = some o := by simp [setBlock, h]
theorem setBlock_other {w : World} {r b : Nat} {o : Obj} (h : b ≠ r) : (setBlock w r o).heap[b]? = w.heap[b]? := by
  have h' : ¬ r = b := fun e => h e.symm
  simp [setBlock, h']
theorem setBlock_grown (W : World) (l : Nat) (o : Obj) : W.grownBy (setBlock W l o) (some l) :=
  ⟨rfl, rfl, rfl, by simp [setBlock], fun k _ hk => setBlock_other (fun e => hk (by rw [e]))⟩
theorem alloc_grown (W : World) (o : Obj) : W.grownBy (W.alloc o) none :=
  ⟨rfl, rfl, rfl, by simp, fun k hk _ => Below.heap_alloc _ _ _ hk⟩
theorem J_alloc {α : Type} {J : List α → World → Prop} {B : Nat} (hJ : AbidesFrom B J) {s : List α} {W : World} (h : J s W) (o : Obj) : J s (W.alloc o) := hJ s W _ none h (alloc_grown W o) (fun r e => by cases e)
set_option maxRecDepth 100000 in
set_option maxHeartbeats 2000000 in
theorem it145_one (b off bm ck : Nat) (e : MapEntry) (W0 : World) (hb : b < W0.heap.size) (hm : bm < W0.heap.size) (hbx : W0.cell? ⟨b, off, none⟩ = some (.map (some bm))) (hmb : W0.heap[bm]? = some (.map #[e] ck)) (he : e.born < ck) :
    SeqStopsK Fence.wide (3 - 1) Tryz.prog 156 #[.pointer (some ⟨b, off, none⟩)] (fun _ : Unit => #[e.key]) KeepsWalks (fun xs => xs = [()]) (fun _ => True) 1 W0 := by
  intro l J Jx W hW hJ hJx hY h0
  have hbx' : W.cell? ⟨b, off, none⟩ = some (.map (some bm)) := (hW.cell (p := ⟨b, off, none⟩) hb).trans hbx
  have hmb' : W.heap[bm]? = some (.map #[e] ck) := (hW.block bm hm).trans hmb
  have hmW : bm < W.heap.size := Nat.lt_of_lt_of_le hm hW.size
  have hrg := run_range_map (P := Tryz.prog) W 167 9 4 bm #[e] ck (by kernel_rfl) hmb'
  refine callsIn_of_wp Tryz.func156 rfl trivial ?_ rfl
  simp only [Tryz.ntmps156, List.size_toArray, List.length_cons, List.length_nil, Nat.reduceAdd, Nat.reduceSub, Array.replicate_succ, Array.replicate_zero, List.push_toArray, List.append_toArray, List.nil_append, List.cons_append]
  have HY := Lib.hid hY
  have HJ := Lib.hid hJ
  have HJx := Lib.hid hJx
  have H0 := Lib.hid h0
  clear hY hJ hJx h0
  gi_wp2
  gi_loopw [3] (fun _ wr => wr.heap[bm]? = some (.map #[e] ck) ∧ ((J [] wr ∧ wr.heap[W.heap.size]? = some (.mapIter (some bm) ck #[] ck)) ∨ (J [()] wr ∧ wr.heap[W.heap.size]? = some (.mapIter (some bm) ck #[e.born] ck)))) (fun _ wr => 1 - (wr.iterSeen W.heap.size).size)
  case atStart =>
    exact ⟨(Below.heap_alloc _ _ _ hmW).trans hmb', .inl ⟨J_alloc HJ.out H0.out _, World.alloc_heap_new _ _⟩⟩
  case round =>
    obtain ⟨hbm, ⟨hJs, hit⟩ | ⟨hJs, hit⟩⟩ := hrel
    · have hn := fun ty => next_first (P := Tryz.prog) wr ty W.heap.size bm ck e hit hbm he
      have hlt : W.heap.size < wr.heap.size := (Array.getElem?_eq_some_iff.1 hit).1
      have hit2 := setBlock_same (w := wr) (o := .mapIter (some bm) ck #[e.born] ck) hlt
      have hbm2 : (setBlock wr W.heap.size (.mapIter (some bm) ck #[e.born] ck)).heap[bm]? = some (.map #[e] ck) := (setBlock_other (by omega)).trans hbm
      have hJ2 : J [] (setBlock wr W.heap.size (.mapIter (some bm) ck #[e.born] ck)) := HJ.out [] wr _ _ hJs (setBlock_grown wr _ _) (fun r h => by cases h; exact ⟨Nat.le_refl _, _, hit, rfl⟩)
      have hen := entry_one (P := Tryz.prog) _ _ _ _ e hit2 hbm2
      have hms : (wr.iterSeen W.heap.size).size = 0 := by simp [World.iterSeen, hit]
      generalize setBlock wr W.heap.size (.mapIter (some bm) ck #[e.born] ck) = wn at hn hit2 hbm2 hJ2 hen
      obtain ⟨fn, tmps, assign, body, hy, hR⟩ := HY.out [] () wn hJ2 (by simp)
      have HJ2 := Lib.hid hJ2
      have HIt := Lib.hid hit2
      have HBm := Lib.hid hbm2
      have HMs := Lib.hid hms
      clear hJ2 hit2 hbm2 hms hJs hit hbm
      gi_wp2
      refine hR.mono ?_
      rintro e1 W3 (⟨rfl, hJ3, hk3⟩ | ⟨rfl, hJx3⟩)
      · gi_wp2
        go_roundw
        case rel => exact ⟨hk3.same _ _ HBm.out rfl, .inr ⟨hJ3, hk3.same _ _ HIt.out rfl⟩⟩
        case measure =>
          have := hk3.same _ _ HIt.out rfl
          rw [HMs.out]
          simp [World.iterSeen, this]
      · gi_wp2
        refine bodyPost_ret (results_none rfl _ _ _) rfl ?_
        exact ⟨⟨_, rfl⟩, .inr ⟨_, trivial, hJx3⟩⟩
    · have hn := fun ty => next_last (P := Tryz.prog) wr ty W.heap.size bm ck e hit hbm he
      gi_wp2
      go_end0
      exact ⟨⟨_, rfl⟩, .inl ⟨[()], rfl, hJs⟩⟩
set_option maxRecDepth 100000 in
set_option maxHeartbeats 2000000 in
theorem it145_none (b off : Nat) (m : Option Nat) (key : Value) (W0 : World) (hb : b < W0.heap.size) (hbx : W0.cell? ⟨b, off, none⟩ = some (.map m)) (hmb : ∀ bm, m = some bm → ∃ ck, W0.heap[bm]? = some (.map #[] ck)) :
    SeqStopsK Fence.wide (3 - 1) Tryz.prog 156 #[.pointer (some ⟨b, off, none⟩)] (fun _ : Unit => #[key]) KeepsWalks (fun xs => xs = []) (fun _ => True) 0 W0 := by
  intro l J Jx W hW hJ hJx hY h0
  have hbx' : W.cell? ⟨b, off, none⟩ = some (.map m) := (hW.cell (p := ⟨b, off, none⟩) hb).trans hbx
  obtain ⟨it, hrg, hnx⟩ : ∃ it, (Instr.range 167 (.map m)).run Tryz.prog W = .ok (.pointer (some ⟨W.heap.size, 0, none⟩)) (W.alloc it) ∧ ∀ ty, (Instr.next (.pointer (some ⟨W.heap.size, 0, none⟩)) false ty).run Tryz.prog (W.alloc it) = .ok (.tuple #[.bool false]) (W.alloc it) := by
    cases m with
    | none => exact ⟨_, run_range_nilMap W 167 9 4 (by kernel_rfl), fun ty => next_nil _ ty _ 0 0 #[] (World.alloc_heap_new _ _)⟩
    | some bm =>
      obtain ⟨ck, hck⟩ := hmb bm rfl
      have hlt := (Array.getElem?_eq_some_iff.1 hck).1
      have hck' : W.heap[bm]? = some (.map #[] ck) := (hW.block bm hlt).trans hck
      have hltW : bm < W.heap.size := (Array.getElem?_eq_some_iff.1 hck').1
      exact ⟨_, run_range_map W 167 9 4 bm #[] ck (by kernel_rfl) hck', fun ty => next_none _ ty _ bm ck (World.alloc_heap_new _ _) ((Below.heap_alloc _ _ _ hltW).trans hck')⟩
  have hJa := J_alloc hJ h0 it
  refine callsIn_of_wp Tryz.func156 rfl trivial ?_ rfl
  simp only [Tryz.ntmps156, List.size_toArray, List.length_cons, List.length_nil, Nat.reduceAdd, Nat.reduceSub, Array.replicate_succ, Array.replicate_zero, List.push_toArray, List.append_toArray, List.nil_append, List.cons_append]
  clear hY hJ hJx h0
  generalize hWa : W.alloc it = Wa at *
  clear hWa hmb
  gi_wp2
  gi_loopw [3] (fun _ wr => wr = Wa) (fun _ wr => 0)
  case atStart => rfl
  case round =>
    obtain rfl := hrel
    gi_wp2
    go_end0
    exact ⟨⟨_, rfl⟩, .inl ⟨[], rfl, hJa⟩⟩
end Go.Ab
namespace Go.Ab
set_option maxRecDepth 8000
open Go.Proofs Go.RowKit Go.Shelf
set_option linter.unusedVariables false
set_option linter.unusedSimpArgs false
attribute [local go_sem] Oper.semAt_some
/-- One element has been appended. -/
def One (w : World) (key : Value) (Q : Nat → World → Value → World → Prop) (v : Value) (W : World) : Prop :=
  ∃ n1 W1 W2, w.heap.size ≤ n1 ∧ Ev (fun _ => False) w W1 ∧ W1.heap.size = n1 + 1 ∧ Q n1 W1 v W2 ∧ W1.heap.size ≤ W2.heap.size ∧ (∀ b : Nat, n1 ≤ b → b < W2.heap.size → ∃ c e f, W2.heap[b]? = some (.cells c e f)) ∧ Ev (fun b => w.heap.size ≤ b ∧ b < n1) W2 W
theorem One.other {w : World} {key v : Value} {Q : Nat → World → Value → World → Prop} {W W' : World} (h : One w key Q v W) {row : Option Nat} (hg : W.grownBy W' row) (hr : ∀ r, row = some r → w.heap.size ≤ r ∧ ∃ o : Obj, W.heap[r]? = some o ∧ o.isCells = false) : One w key Q v W' := by
  obtain ⟨n1, W1, W2, h1, h2, h3, h4, h5, h6, h7⟩ := h
  refine ⟨n1, W1, W2, h1, h2, h3, h4, h5, h6, ?_⟩
  have hcell : ∀ (r : Nat) (o : Obj), W.heap[r]? = some o → o.isCells = false → ∀ c e f, W.heap[r]? ≠ some (.cells c e f) := by
    intro r o ho hc c e f hh
    rw [ho] at hh
    cases hh
    cases hc
  refine { os := hg.os.trans h7.os, tape := hg.tape.trans h7.tape, output := hg.output.trans h7.output, size := Nat.le_trans h7.size hg.size, keep := fun b hb hn => ?_, shape := fun b c e f hc => ?_ }
  · refine (hg.block b (Nat.lt_of_lt_of_le hb h7.size) (fun he => ?_)).trans (h7.keep b hb hn)
    obtain ⟨hlt, o, ho, hcs⟩ := hr b he.symm
    by_cases hb1 : b < n1
    · exact hn ⟨hlt, hb1⟩
    · obtain ⟨c, e, f, k⟩ := h6 b (by omega) hb
      exact hcell b o ho hcs c e f ((h7.keep b hb hn).trans k)
  · obtain ⟨c', k1, k2⟩ := h7.shape b c e f hc
    refine ⟨c', (hg.block b (Array.getElem?_eq_some_iff.1 k1).1 (fun he => ?_)).trans k1, k2⟩
    obtain ⟨hlt, o, ho, hcs⟩ := hr b he.symm
    exact hcell b o ho hcs _ _ _ k1
theorem ev_none_grown {w W W' : World} {row : Option Nat} (h : Ev (fun _ => False) w W) (hg : W.grownBy W' row) (hr : ∀ r, row = some r → w.heap.size ≤ r) : Ev (fun _ => False) w W' :=
  { os := hg.os.trans h.os, tape := hg.tape.trans h.tape, output := hg.output.trans h.output, size := Nat.le_trans h.size hg.size,
    keep := fun b hb hn => (hg.block b (Nat.lt_of_lt_of_le hb h.size) (fun he => by have := hr b he.symm; omega)).trans (h.keep b hb hn),
    shape := fun b c e f hc => by
      have hb := (Array.getElem?_eq_some_iff.1 hc).1
      exact ⟨c, (hg.block b (Nat.lt_of_lt_of_le hb h.size) (fun he => by have := hr b he.symm; omega)).trans ((h.keep b hb fun h => h).trans hc), rfl⟩ }
theorem box_set {W : World} {B : Nat} {v : Value} {t : TypeId} (v' : Value) (h : W.heap[B]? = some (.cells #[v] t (0, 0))) : (W.setCell ⟨B, 0, none⟩ v').heap[B]? = some (.cells #[v'] t (0, 0)) := by
  obtain ⟨hlt, hk⟩ := Array.getElem?_eq_some_iff.1 h
  show (W.heap.modify B _)[B]? = _
  rw [Array.getElem?_eq_getElem (by rw [Array.size_modify]; exact hlt), Array.getElem_modify_self, hk]
  rfl
/-- Between the rounds. -/
def Inv91 (w : World) (sv key : Value) (Q : Nat → World → Value → World → Prop) (pre : List Unit) (W : World) : Prop :=
  (pre = [] ∧ Ev (fun _ => False) w W ∧ W.heap[w.heap.size]? = some (.cells #[sv] 76 (0, 0))) ∨
  (pre = [()] ∧ ∃ v, One w key Q v W ∧ W.heap[w.heap.size]? = some (.cells #[v] 76 (0, 0)))
theorem Inv91.own {w : World} {sv key : Value} {Q : Nat → World → Value → World → Prop} {B : Nat} (hB : w.heap.size ≤ B) : OwnFrom B (Inv91 w sv key Q) := by
  intro s W W' row h hg hr
  have hr' : ∀ r, row = some r → w.heap.size ≤ r ∧ ∃ o : Obj, W.heap[r]? = some o ∧ o.isCells = false := fun r e => ⟨Nat.le_trans hB (hr r e).1, (hr r e).2⟩
  have hbox : ∀ v, W.heap[w.heap.size]? = some (.cells #[v] 76 (0, 0)) → W'.heap[w.heap.size]? = some (.cells #[v] 76 (0, 0)) := fun v hv => (hg.block _ (Array.getElem?_eq_some_iff.1 hv).1 (fun he => by
    obtain ⟨_, o, ho, hc⟩ := hr _ he.symm
    rw [hv] at ho
    cases ho
    cases hc)).trans hv
  rcases h with ⟨rfl, h1, h2⟩ | ⟨rfl, v, h1, h2⟩
  · exact .inl ⟨rfl, ev_none_grown h1 hg fun r e => (hr' r e).1, hbox _ h2⟩
  · exact .inr ⟨rfl, v, h1.other hg hr', hbox _ h2⟩
theorem wpListIn_append_run {F : Fence} {n : Nat} {P : Program} {w : World} {ops : Array Oper} {rest : List Oper} {o : Oper} {a : Act} {Q : Exit → Act → World → Prop} (hgd : o.guard = none) (s x : Operand) (t : TypeId)
    (ho : o.op = .call { callee := .builtin .append, args := #[s, x], argTypes := #[t, t] }) {y z v : Value} {w' : World} (hs : a.eval s = y) (hx : a.eval x = z) (hr : (Builtin.append_ #[t, t] o.type #[y, z]).run P w = .ok v w')
    (h : wpListIn F n P ops Q rest (a.put o.dst v) w') : wpListIn F n P ops Q (o :: rest) a w := by
  refine wpListIn_plain hgd fun K hK => ?_
  unfold Oper.wpIn
  refine ⟨by simp [Oper.about, ho, resolve, Target.leads, Sem.run_pure], ?_⟩
  rw [Oper.semAt_plain F _ _ (by rw [ho]; intro c hc'; cases hc')]
  simp [execOp, ho, resolve, invoke, builtin, hs, hx, hr, Result.andThen]
  exact hK _ _ h
set_option maxRecDepth 100000 in
set_option maxHeartbeats 8000000 in
theorem t91 (ks : List Unit) (hks : ks.length ≤ 1) (sa : Option Addr) (sn sc : Nat) (bx : Addr) (kb : ByteArray) (w : World) (Q : Nat → World → Value → World → Prop) (R : Ending → World → Prop)
    (HSeq : Hid (∀ W, Ev (fun _ => False) w W → SeqStopsK Fence.wide (3 - 1) Tryz.prog 156 #[.pointer (some bx)] (fun _ : Unit => #[.string kb]) KeepsWalks (fun xs => xs = ks) (fun _ => True) ks.length W))
    (HA : Hid (ks.length = 1 → ∀ n1 W1, w.heap.size ≤ n1 → Ev (fun _ => False) w W1 → W1.heap.size = n1 + 1 → W1.heap[n1]? = some (.cells #[.string kb] 9 (0, 0)) →
      ∃ va vn vc W2, (Builtin.append_ #[76, 76] 76 #[.slice sa sn sc, .slice (some ⟨n1, 0, none⟩) 1 1]).run Tryz.prog W1 = .ok (.slice va vn vc) W2 ∧ Q n1 W1 (.slice va vn vc) W2 ∧ W1.heap.size ≤ W2.heap.size ∧ (W2.os = W1.os ∧ W2.tape = W1.tape ∧ W2.output = W1.output) ∧ Wk W1 W2 ∧ ∀ b : Nat, w.heap.size ≤ b → b ≤ n1 → W2.heap[b]? = W1.heap[b]?))
    (HR0 : Hid (ks = [] → ∀ W, Ev (fun _ => False) w W → R (.returned (.slice sa sn sc)) W))
    (HR1 : Hid (ks = [()] → ∀ v W, One w (.string kb) Q v W → R (.returned v) W)) :
    Calls Tryz.prog 101 #[.slice sa sn sc, .func (.func 156) #[] #[.pointer (some bx)]] w R := by
  refine (callsIn_wide (n := 3)).1 ?_
  refine callsIn_of_wp_marks Tryz.func101 rfl trivial ?_
  simp only [Tryz.ntmps101, List.size_toArray, List.length_cons, List.length_nil, Nat.reduceAdd, Nat.reduceSub, Array.replicate_succ, Array.replicate_zero, List.push_toArray, List.append_toArray, List.nil_append, List.cons_append]
  gi_wp2
  have hE0 : Ev (fun _ => False) w (w.alloc (.cells #[.slice sa sn sc] 76)) := alloc_ev w _
  have hsz : (w.alloc (.cells #[.slice sa sn sc] 76)).heap.size = w.heap.size + 1 := by simp [World.alloc, -World.alloc_eq]
  have hbox : (w.alloc (.cells #[.slice sa sn sc] 76)).heap[w.heap.size]? = some (.cells #[.slice sa sn sc] 76 (0, 0)) := alloc_at w _
  generalize w.alloc (.cells #[.slice sa sn sc] 76) = w1 at *
  refine wpIn_rangeFunc_ownH (F := Fence.wide) (n := 3) rfl (by decide) (gf := 156) (lb := #[.pointer (some bx)]) rfl trivial (enters_of Tryz.func156 (by kernel_rfl) rfl) (HSeq.out w1 hE0) (fun h k => h.trans k) (fun W l o o' hl ho hc hw => KeepsWalks.putObj _ ho hw) (Below.refl _ _) (fun _ => rfl)
    (Inv91 w (.slice sa sn sc) (.string kb) Q) (fun _ _ _ => False) (Inv91.own (by omega)) (fun _ _ _ _ _ h => h.elim) (.inl ⟨rfl, hE0, hbox⟩)
    (fun _ a' W => a' = ⟨#[.slice sa sn sc, .func (.func 156) #[] #[.pointer (some bx)], .pointer (some ⟨w.heap.size, 0, none⟩), undef, .slice none 0 0, .string kb, .func (.func 156) #[] #[.pointer (some bx)], .string kb, undef, undef, undef, undef, undef], []⟩) (fun _ _ _ _ _ _ h _ _ => h) ?assign ?body ?done (fun _ _ _ _ _ _ h _ => h.elim)
  case assign =>
    intro l pre x W K' hI hK'
    have HK := Lib.hid hK'
    clear hK'
    gi_wp2
    exact HK.out _ _ (KeepsFrom.refl _ _) (KeepsWalks.refl _) hI rfl
  case body =>
    rintro l pre x a' W hl ⟨r, hr⟩ hI rfl hlen
    have h1k : ks.length = 1 := by omega
    rcases hI with ⟨rfl, h1, h2⟩ | ⟨rfl, _⟩
    rotate_left
    · simp at hlen; omega
    have hle := h1.size
    have hE2 : Ev (fun _ => False) w (W.alloc (.cells #[.string kb] 9)) := h1.trans (alloc_ev W _) (fun _ _ h => h)
    obtain ⟨va, vn, vc, W2, hrun, hQ, hs2, h3, hwk, hkeep⟩ := HA.out h1k W.heap.size _ h1.size hE2 (by simp [World.alloc, -World.alloc_eq]) (alloc_at W _)
    have hb2 : W2.heap[w.heap.size]? = some (.cells #[.slice sa sn sc] 76 (0, 0)) := by
      have hlt := (Array.getElem?_eq_some_iff.1 h2).1
      rw [hkeep _ (Nat.le_refl _) (by omega), alloc_old _ _ _ hlt]
      exact h2
    have x0 : W.cell? ⟨w.heap.size, 0, none⟩ = some (.slice sa sn sc) := Lib.cell_of_heap h2 0
    have c2 : W2.cell? ⟨w.heap.size, 0, none⟩ = some (.slice sa sn sc) := Lib.cell_of_heap hb2 0
    have f2 : W2.frozen? ⟨w.heap.size, 0, none⟩ = false := by simp [World.frozen?, hb2]
    have HX := Lib.hid (And.intro hQ (And.intro hs2 (And.intro h3 (And.intro hwk (And.intro hkeep hb2)))))
    have HW := Lib.hid (And.intro h1 (And.intro h2 (And.intro hE2 hle)))
    clear hQ hs2 h3 hwk hkeep hb2 h1 h2 hE2 hle hr
    refine wpIn_block ?_
    gi_wp2_with (first
      | (gi_at_builtin; refine wpListIn_append_run rfl _ _ 76 rfl rfl rfl hrun ?_)
      | gi_in)
    obtain ⟨hQ, hs2, h3, hwk, hkeep, hb2⟩ := HX.out
    obtain ⟨h1, h2, hE2, hle⟩ := HW.out
    have hsW : (W.alloc (.cells #[.string kb] 9)).heap.size = W.heap.size + 1 := by simp [World.alloc, -World.alloc_eq]
    have hlt := (Array.getElem?_eq_some_iff.1 h2).1
    have hW3 : ∀ b : Nat, b ≠ w.heap.size → (W2.setCell ⟨w.heap.size, 0, none⟩ (.slice va vn vc)).heap[b]? = W2.heap[b]? := fun b hb => Below.heap_setCell _ _ _ b hb
    have hkw : ∀ (k : Nat) (o : Obj), W.heap[k]? = some o → o.isCells = false → (W2.setCell ⟨w.heap.size, 0, none⟩ (.slice va vn vc)).heap[k]? = some o := by
      intro k o hk ho
      have hkl := (Array.getElem?_eq_some_iff.1 hk).1
      rw [hW3 k (by rintro rfl; rw [h2] at hk; cases hk; cases ho)]
      exact hwk.keep k o ((alloc_old _ _ _ hkl).trans hk) (by rintro c e f rfl; cases ho)
    have hs3 : (W2.setCell ⟨w.heap.size, 0, none⟩ (.slice va vn vc)).heap.size = W2.heap.size := by simp
    refine ⟨⟨by rw [hs3]; omega, fun k o _ hk ho => hkw k o hk ho⟩, ⟨by rw [hs3]; omega, fun k o hk ho => hkw k o hk (by cases o <;> first | rfl | cases ho)⟩, .inr ⟨rfl, _, ⟨W.heap.size, _, W2, h1.size, hE2, hsW, hQ, by omega, fun b hb1 hb2' => ?_, ?_⟩, box_set _ hb2⟩⟩
    · by_cases hbe : b = W.heap.size
      · subst hbe
        exact ⟨_, _, _, (hkeep _ hle (Nat.le_refl _)).trans (alloc_at W _)⟩
      · exact hwk.new b (by omega) hb2'
    · exact (setCell_ev hb2).mono fun b hb => by subst hb; exact ⟨Nat.le_refl _, hlt⟩
  case done =>
    rintro D xs W hD rfl hI hKD
    obtain ⟨v, hv, hend⟩ : ∃ v, W.heap[w.heap.size]? = some (.cells #[v] 76 (0, 0)) ∧ R (.returned v) (W.putObj D (.deferred none)) := by
      rcases hI with ⟨h1, h2, h3⟩ | ⟨h1, v, h2, h3⟩
      · exact ⟨_, h3, HR0.out h1 _ (ev_none_grown h2 (grownBy_putObj' W D _) fun r e => by cases e; omega)⟩
      · exact ⟨_, h3, HR1.out h1 v _ (h2.other (grownBy_putObj' W D _) fun r e => by cases e; exact ⟨by omega, _, hKD, rfl⟩)⟩
    have x0 : W.cell? ⟨w.heap.size, 0, none⟩ = some v := Lib.cell_of_heap hv 0
    have HE := Lib.hid hend
    have HD := Lib.hid hKD
    clear hend hKD hv hI
    gi_wp2
    refine ⟨by simp, .inl ⟨_, _, rfl, run_takeDeferred HD.out, ?_⟩⟩
    exact ⟨_, by simp [results, Tryz.results101], HE.out⟩
end Go.Ab
namespace Go.Ab
set_option maxRecDepth 8000
open Go.Proofs Go.RowKit Go.Shelf
open Go.ChangeMaps (setBlock)
set_option linter.unusedVariables false
set_option linter.unusedSimpArgs false
theorem w93_known (sb : ByteArray) (pa pb pd : Addr) (kb : Nat) (n : Int) (w : World) (R : Ending → World → Prop) (hc : w.cell? pa = some (.map (some kb)))
    (hl : (Instr.lookup 155 (.map (some kb)) (.string sb) false).run Tryz.prog w = .ok (.int .i64 n) w) (hn : n ≠ 0) (hR : R (.returned (.int .i64 n)) w) :
    Calls Tryz.prog 103 #[.string sb, .pointer (some pa), .pointer (some pb), .pointer (some pd)] w R := by
  go_enter Tryz.func103, Tryz.ntmps103
  have HR := Lib.hid hR
  clear hR
  go_wp2
  exact HR.out
/-- The end of a call that has counted. -/
def End93 (pa : Addr) (sb : ByteArray) (R : Ending → World → Prop) (q : Int) (W : World) : Prop :=
  ∃ kb W3 kb3 v, W.cell? pa = some (.map (some kb)) ∧ (Instr.mapUpdate 155 (.map (some kb)) (.string sb) (.int .i64 (q + 1))).run Tryz.prog W = .ok () W3 ∧ W3.cell? pa = some (.map (some kb3)) ∧
    (Instr.lookup 155 (.map (some kb3)) (.string sb) false).run Tryz.prog W3 = .ok (.int .i64 v) W3 ∧ R (.returned (.int .i64 v)) W3
set_option maxRecDepth 100000 in
set_option maxHeartbeats 2000000 in
theorem w93_none (sb : ByteArray) (pa pb pd : Addr) (kb gb : Nat) (mm : Option Nat) (w : World) (it : Obj) (R : Ending → World → Prop) (hc : w.cell? pa = some (.map (some kb)))
    (hl : (Instr.lookup 155 (.map (some kb)) (.string sb) false).run Tryz.prog w = .ok (.int .i64 0) w) (hg : w.cell? pb = some (.map (some gb)))
    (hl2 : (Instr.lookup 179 (.map (some gb)) (.string sb) false).run Tryz.prog w = .ok (.map mm) w)
    (hrg : (Instr.range 167 (.map mm)).run Tryz.prog w = .ok (.pointer (some ⟨w.heap.size, 0, none⟩)) (w.alloc it)) (hnx : ∀ ty, (Instr.next (.pointer (some ⟨w.heap.size, 0, none⟩)) false ty).run Tryz.prog (w.alloc it) = .ok (.tuple #[.bool false]) (w.alloc it))
    (hE : End93 pa sb R 0 (w.alloc it)) :
    Calls Tryz.prog 103 #[.string sb, .pointer (some pa), .pointer (some pb), .pointer (some pd)] w R := by
  obtain ⟨kb1, W3, kb3, v, e1, e2, e3, e4, e5⟩ := hE
  rw [show (0 : Int) + 1 = 1 from rfl] at e2
  generalize hW1 : w.alloc it = W1 at *
  go_enter Tryz.func103, Tryz.ntmps103
  have HR := Lib.hid e5
  clear e5 hW1
  go_wp2
  go_loopw [6, 7] (fun x _ wr => x = .int .i64 0 ∧ wr = W1) (fun _ _ _ => 0)
  case atStart => exact ⟨rfl, rfl⟩
  case round =>
    obtain ⟨rfl, rfl⟩ := hrel
    go_wp2
    exact HR.out
set_option maxRecDepth 100000 in
set_option maxHeartbeats 2000000 in
theorem w93_one (sb : ByteArray) (pa pb pd : Addr) (z1 z2 z3 : Value) (kb gb bm ck : Nat) (e : MapEntry) (w : World) (R : Ending → World → Prop) (hc : w.cell? pa = some (.map (some kb)))
    (hl : (Instr.lookup 155 (.map (some kb)) (.string sb) false).run Tryz.prog w = .ok (.int .i64 0) w) (hg : w.cell? pb = some (.map (some gb)))
    (hl2 : (Instr.lookup 179 (.map (some gb)) (.string sb) false).run Tryz.prog w = .ok (.map (some bm)) w)
    (hbm : w.heap[bm]? = some (.map #[e] ck)) (hborn : e.born < ck)
    (hpd : (setBlock (w.alloc (.mapIter (some bm) ck #[] ck)) w.heap.size (.mapIter (some bm) ck #[e.born] ck)).cell? pd = some (.func (.func 103) #[] #[z1, z2, z3]))
    (hC : Calls Tryz.prog 103 #[e.key, z1, z2, z3] (setBlock (w.alloc (.mapIter (some bm) ck #[] ck)) w.heap.size (.mapIter (some bm) ck #[e.born] ck))
      fun e2 W2 => ∃ q : Nat, q < 1000000000 ∧ e2 = .returned (.int .i64 q) ∧ W2.heap[w.heap.size]? = some (.mapIter (some bm) ck #[e.born] ck) ∧ W2.heap[bm]? = some (.map #[e] ck) ∧ End93 pa sb R q W2) :
    Calls Tryz.prog 103 #[.string sb, .pointer (some pa), .pointer (some pb), .pointer (some pd)] w R := by
  have hrg := run_range_map (P := Tryz.prog) w 167 9 4 bm #[e] ck (by kernel_rfl) hbm
  have hlt : bm < w.heap.size := (Array.getElem?_eq_some_iff.1 hbm).1
  have hit : (w.alloc (.mapIter (some bm) ck #[] ck)).heap[w.heap.size]? = some (.mapIter (some bm) ck #[] ck) := World.alloc_heap_new _ _
  have hbm1 : (w.alloc (.mapIter (some bm) ck #[] ck)).heap[bm]? = some (.map #[e] ck) := (Below.heap_alloc _ _ _ hlt).trans hbm
  have hn := fun ty => next_first (P := Tryz.prog) _ ty w.heap.size bm ck e hit hbm1 hborn
  have hlt1 : w.heap.size < (w.alloc (.mapIter (some bm) ck #[] ck)).heap.size := (Array.getElem?_eq_some_iff.1 hit).1
  have hit2 : (setBlock (w.alloc (.mapIter (some bm) ck #[] ck)) w.heap.size (.mapIter (some bm) ck #[e.born] ck)).heap[w.heap.size]? = some (.mapIter (some bm) ck #[e.born] ck) := by
    generalize w.alloc (.mapIter (some bm) ck #[] ck) = X at *
    simp [setBlock, hlt1]
  have hbm2 : (setBlock (w.alloc (.mapIter (some bm) ck #[] ck)) w.heap.size (.mapIter (some bm) ck #[e.born] ck)).heap[bm]? = some (.map #[e] ck) := by
    generalize w.alloc (.mapIter (some bm) ck #[] ck) = X at *
    have hne : ¬ w.heap.size = bm := by omega
    simpa [setBlock, hne] using hbm1
  have hen := entry_one (P := Tryz.prog) _ _ _ _ e hit2 hbm2
  have hms1 : ((w.alloc (.mapIter (some bm) ck #[] ck)).iterSeen w.heap.size).size = 0 := by unfold World.iterSeen; rw [hit]; rfl
  generalize hw1 : setBlock (w.alloc (.mapIter (some bm) ck #[] ck)) w.heap.size (.mapIter (some bm) ck #[e.born] ck) = w1 at *
  generalize hw0 : w.alloc (.mapIter (some bm) ck #[] ck) = w0 at *
  have HC := Lib.hid hC
  have HMs := Lib.hid hms1
  clear hC hms1 hit hbm1 hit2 hbm2 hw1 hw0
  go_enter Tryz.func103, Tryz.ntmps103
  go_wp2
  go_loopw [6, 7] (fun x _ wr => (x = .int .i64 0 ∧ wr = w0) ∨ (∃ q : Nat, q < 1000000000 ∧ x = .int .i64 q ∧ wr.heap[w.heap.size]? = some (.mapIter (some bm) ck #[e.born] ck) ∧ wr.heap[bm]? = some (.map #[e] ck) ∧ End93 pa sb R q wr)) (fun _ _ wr => 1 - (wr.iterSeen w.heap.size).size)
  case atStart => exact .inl ⟨rfl, rfl⟩
  case round =>
    rcases hrel with ⟨rfl, rfl⟩ | ⟨q, hq, rfl, hit, hbm', kb1, W3, kb3, v, e1, e2, e3, e4, e5⟩
    · go_wp2_with (go_at_call 103; refine HC.out.mono ?_; rintro e2 W2 ⟨q, hq, rfl, hi2, hb2, hE2⟩)
      go_roundw
      case rel => exact .inr ⟨q, hq, by congr 1; omega, hi2, hb2, hE2⟩
      case measure =>
        rw [HMs.out]
        simp [World.iterSeen, hi2]
    · have hnl := fun ty => next_last (P := Tryz.prog) _ ty w.heap.size bm ck e hit hbm' hborn
      have HR := Lib.hid e5
      clear e5 hit hbm'
      go_wp2
      exact HR.out
end Go.Ab
