/- What a step does to the events; the run of many steps. -/
import Derived.Test.YtieaicdihingkaaGreatK20
import Derived.Test.YtieaicdihingkaaGreatK23
namespace Go.Proofs.YtieaicdihingkaaGreat
set_option linter.unusedVariables false
set_option linter.unusedSimpArgs false
open Go.RowKit
theorem arithM_out {m m' : Mach} {op b : Int} {d : Nat} (h : arithM m op d b = .ok m') : m'.out = m.out := by
 unfold arithM at h
 repeat' split at h
 all_goals first | (cases h; done) | (cases h; rfl)
theorem loadM_out {m m' : Mach} {a : Int} {n d : Nat} (h : loadM m a n d = .ok m') : m'.out = m.out := by
 unfold loadM at h; split at h <;> cases h; rfl
theorem storeM_out {m m' : Mach} {a v : Int} {n : Nat} (h : storeM m a n v = .ok m') : m'.out = m.out := by
 unfold storeM at h; split at h <;> cases h; rfl
theorem conM_out {E : Env} {m m' : Mach} {b a : Int} {n d : Nat} (h : conM E m b a n d = .ok m') : m'.out = m.out := by
 unfold conM at h; split at h <;> cases h; rfl
theorem accessM_out {E : Env} {m m' : Mach} {i : InsI} {d s : Nat} (h : accessM E m i d s = some (.ok m')) : m'.out = m.out := by
 unfold accessM at h
 by_cases h80 : i.op = 80
 ·rw [if_pos h80] at h; exact loadM_out (Option.some.inj h)
 rw [if_neg h80] at h
 by_cases h81 : i.op = 81
 ·rw [if_pos h81] at h; exact loadM_out (Option.some.inj h)
 rw [if_neg h81] at h
 by_cases h82 : i.op = 82
 ·rw [if_pos h82] at h; exact storeM_out (Option.some.inj h)
 rw [if_neg h82] at h
 by_cases h83 : i.op = 83
 ·rw [if_pos h83] at h; exact storeM_out (Option.some.inj h)
 rw [if_neg h83] at h
 by_cases h84 : i.op = 84
 ·rw [if_pos h84] at h; exact loadM_out (Option.some.inj h)
 rw [if_neg h84] at h
 by_cases h85 : i.op = 85
 ·rw [if_pos h85] at h; exact loadM_out (Option.some.inj h)
 rw [if_neg h85] at h
 by_cases h86 : i.op = 86
 ·rw [if_pos h86] at h; exact storeM_out (Option.some.inj h)
 rw [if_neg h86] at h
 by_cases h87 : i.op = 87
 ·rw [if_pos h87] at h; exact storeM_out (Option.some.inj h)
 rw [if_neg h87] at h
 by_cases h88 : i.op = 88
 ·rw [if_pos h88] at h; exact loadM_out (Option.some.inj h)
 rw [if_neg h88] at h
 by_cases h89 : i.op = 89
 ·rw [if_pos h89] at h; exact loadM_out (Option.some.inj h)
 rw [if_neg h89] at h
 by_cases h90 : i.op = 90
 ·rw [if_pos h90] at h; exact storeM_out (Option.some.inj h)
 rw [if_neg h90] at h
 by_cases h91 : i.op = 91
 ·rw [if_pos h91] at h; exact storeM_out (Option.some.inj h)
 rw [if_neg h91] at h
 by_cases h146 : i.op = 146
 ·rw [if_pos h146] at h; exact conM_out (Option.some.inj h)
 rw [if_neg h146] at h
 by_cases h147 : i.op = 147
 ·rw [if_pos h147] at h; exact conM_out (Option.some.inj h)
 rw [if_neg h147] at h
 by_cases h150 : i.op = 150
 ·rw [if_pos h150] at h; exact storeM_out (Option.some.inj h)
 rw [if_neg h150] at h
 cases h
theorem stackM_out {m m' : Mach} {i : InsI} {d : Nat} (h : stackM m i d = some (.ok m')) : m'.out = m.out := by
 unfold stackM pushM popM enterM leaveM dropM ldM stM at h
 repeat' split at h
 all_goals first | (cases h; done) | (cases h; rfl) | (simp only [Option.some.injEq] at h; repeat' split at h; all_goals first | (cases h; done) | (cases h; rfl))
theorem tableM_out {E : Env} {m m' : Mach} {a : Int} (h : tableM E m a = .ok m') : m'.out = m.out := by
 unfold tableM at h
 repeat' split at h
 all_goals first | (cases h; done) | (cases h; rfl)
theorem controlM_out {E : Env} {m m' : Mach} {i : InsI} {d : Nat} (h : controlM E m i d = some (.ok m')) : m'.out = m.out := by
 unfold controlM at h
 split at h
 ·simp only [Option.some.injEq] at h; unfold retM at h; split at h <;> cases h; rfl
 split at h
 ·simp only [Option.some.injEq] at h; unfold iretM at h; split at h <;> cases h; rfl
 split at h
 ·cases h; rfl
 split at h
 ·simp only [Option.some.injEq] at h; unfold callM push2M at h; repeat' split at h
  all_goals first | (cases h; done) | skip
  rename_i m1 h1
  split at h1 <;> cases h1
  cases h; rfl
 split at h
 ·simp only [Option.some.injEq] at h; unfold callfM push2M at h; repeat' split at h
  all_goals first | (cases h; done) | skip
  rename_i m1 h1
  split at h1 <;> cases h1
  cases h; rfl
 split at h
 ·cases h; rfl
 split at h
 ·simp only [Option.some.injEq] at h; unfold jtabM at h; split at h
  ·exact tableM_out (m := addPc m i.imm) h
  ·cases h; rfl
 split at h
 ·simp only [Option.some.injEq] at h; exact tableM_out h
 split at h
 ·simp only [Option.some.injEq] at h; unfold jccM at h; split at h <;> (cases h; rfl)
 ·cases h
theorem restM_out {E : Env} {m m' : Mach} {i : InsI} {d s : Nat} (h : restM E m i d s = .ok m') : m'.out = m.out := by
 unfold restM at h
 cases h1 : accessM E m i d s with
 | some r => rw [h1] at h; dsimp only at h; subst h; exact accessM_out h1
 | none =>
  rw [h1] at h
  dsimp only at h
  cases h2 : stackM m i d with
  | some r => rw [h2] at h; dsimp only at h; subst h; exact stackM_out h2
  | none =>
   rw [h2] at h
   dsimp only at h
   cases h3 : controlM E m i d with
   | some r => rw [h3] at h; dsimp only at h; subst h; exact controlM_out h3
   | none => rw [h3] at h; cases h; rfl
theorem execM_out {E : Env} {m m' : Mach} {i : InsI} {d s : Nat} (h : execM E m i d s = .ok m') : m'.out.length ≤ m.out.length + 1 := by
 unfold execM at h
 split at h
 ·cases h; omega
 split at h
 ·cases h
 split at h
 ·unfold pollM at h
  repeat' split at h
  all_goals first | (cases h; done) | (cases h; exact Nat.le_succ _)
 split at h
 ·cases h
  unfold portsM inM
  repeat' split
  all_goals first | exact Nat.le_succ _ | simp
 split at h
 ·cases h; exact Nat.le_succ _
 split at h
 ·cases h; exact Nat.le_succ _
 split at h
 ·rw [arithM_out h]; omega
 split at h
 ·rw [arithM_out h]; omega
 split at h
 ·rw [arithM_out h]; omega
 ·rw [restM_out h]; omega
theorem stepM_out {E : Env} {m m' : Mach} (h : stepM E m = .ok m') : m'.out.length ≤ m.out.length + 1 := by
 unfold stepM at h
 split at h
 ·cases h
 ·rename_i i _
  split at h
  ·cases h
  ·rename_i m1 h1
   cases h
   show m1.out.length ≤ m.out.length + 1
   exact execM_out (m := addPc m i.size) h1
/-- Many steps: the machine at the end, and the trap. -/
def runM (E : Env) : Nat → Mach → Mach × (Int × Int)
 | 0, m => (m, (7, 0))
 | k + 1, m => match stepM E m with
  | .ok m' => runM E k m'
  | .error t => if t.1 = 0 then runM E k m else (m, t)
end Go.Proofs.YtieaicdihingkaaGreat
namespace Go.Proofs.YtieaicdihingkaaGreat
set_option linter.unusedVariables false
set_option linter.unusedSimpArgs false
open Go.RowKit
def RunPost (E : Env) (V : World) (r : Mach × (Int × Int)) (e : Ending) (w' : World) : Prop :=
 ∃ C : Array Value, e = .returned (.tuple #[.agg C, .agg #[.int .i64 r.2.1, .int .u16 r.2.2]]) ∧ Snapped V r.1 (ramS r.1.ram) (.agg C) w' ∧ Keeps E.base V w'
theorem rows_result {fn : Func} {p q : Tmp} {t u : TypeId} (h : fn.results = #[.cell p t, .cell q u]) (tmps : Array Value) (w : World) (N M : Nat) (C D : Array Value) (e e' : TypeId) (hp : tmps[p]?.getD undef = .pointer (some ⟨N, 0, none⟩)) (hq : tmps[q]?.getD undef = .pointer (some ⟨M, 0, none⟩))
  (hN : w.heap[N]? = some (.cells C e (0, 0))) (hM : w.heap[M]? = some (.cells D e' (0, 0))) {fs gs : Array Field} (hu : Tryz.prog.underlying t = some (.struct fs)) (hv : Tryz.prog.underlying u = some (.struct gs))
  (hi : (Tryz.prog.info? t).map (·.size) = some C.size) (hj : (Tryz.prog.info? u).map (·.size) = some D.size) : (results fn tmps).run Tryz.prog w = .ok (.tuple #[.agg C, .agg D]) w := by
 have hl := run_loadVar_row (P := Tryz.prog) w N e t C (0, 0) _ hN hu rfl hi
 have hm := run_loadVar_row (P := Tryz.prog) w M e' u D (0, 0) _ hM hv rfl hj
 simp only [results, h]
 simp [Sem.run_bind, Result.andThen, hp, hq, asAddr, hl, hm]
theorem info46 : (Tryz.prog.info? 39).map (·.size) = some 2 := by kernel_rfl
theorem keeps_row {base : Nat} {V w : World} (h : Keeps base V w) {T : Nat} {C : Array Value} (hT : V.heap.size ≤ T) : Keeps base V (w.setRow T C) :=
 ⟨h.os, h.tape, h.output, by simpa [World.setRow] using h.size, fun k o h1 h2 => (setRow_other w T k C (fun e => by have := (Array.getElem?_eq_some_iff.1 h1).1; omega)).trans (h.blk k o h1 h2)⟩
theorem snap_row2 {W0 : World} {m : Mach} {vs vo : Value} {A : Nat} {w : World} {c : Array Value} {C : Array Value} {t : TypeId} (ht : t ≠ 22 ∧ t ≠ 51) (h0 : w.heap[A]? = some (.cells c t (0, 0))) (hs : SnapIn W0 w m vs vo) : SnapIn W0 (w.setRow A C) m vs vo := by
 refine ⟨own_row hs.st fun e => ?_, own_row hs.out fun e => ?_⟩
 ·obtain ⟨_, c, f, hk⟩ := own_kind hs.st _ e
  rw [h0] at hk; simp at hk; exact ht.1 hk.2.1
 ·obtain ⟨_, c, f, hk⟩ := own_kind hs.out _ e
  rw [h0] at hk; simp at hk; exact ht.2 hk.2.1
theorem Snapped.low {V W w : World} {m : Mach} {S : ByteArray} {v : Value} (h : Snapped W m S v w) (hb : V.heap.size ≤ W.heap.size) : Snapped V m S v w := by
 obtain ⟨p, c, p2, c2, e, h1, h2⟩ := h
 exact ⟨p, c, p2, c2, e, own_low h1 hb, own_low h2 hb⟩
theorem wpList_store_row {ops : Array Oper} {rest : List Oper} {o : Oper} {a : Act} {Q : Exit → Act → World → Prop} {W : World} (t : TypeId) (x y : Operand) (hgd : o.guard = none) (ho : o.op = .store t x y) (N : Nat) (hx : a.eval x = .pointer (some ⟨N, 0, none⟩)) (C : Array Value) (hy : a.eval y = .agg C) {c : Array Value} {e : TypeId}
  (hN : W.heap[N]? = some (.cells c e (0, 0))) (hi : (Tryz.prog.info? t).map (·.size) = some C.size) (hs : c.size = C.size) (h1 : C.all (·.oneCell') = true) (h : wpList Tryz.prog ops Q rest (a.put o.dst undef) (W.setRow N C)) : wpList Tryz.prog ops Q (o :: rest) a W :=
 wpList_plain hgd fun K hK => wp_store_row t x y ho N hx C hy hN hi hs h1 (hK _ _ h)
structure Boxes (V W : World) : Prop where
 a : W.heap[V.heap.size]? = some (.cells #[.int .u16 0, .int .u16 0, .int .u16 0, .int .u16 0, .int .u16 0, .int .u16 0, .int .u16 0, .int .u16 0, .int .u16 0, .int .u16 0, .int .u16 0, .int .u16 0, .int .i64 0, .int .i64 0, .int .i64 0, .int .i64 0, .string ⟨#[]⟩, .slice none 0 0, .slice none 0 0] 36 (0, 0))
 b : W.heap[V.heap.size + 1]? = some (.cells #[.int .i64 0, .int .u16 0] 39 (0, 0))
theorem Boxes.next {V W W' : World} {base : Nat} (h : Boxes V W) (hk : Keeps base W W') : Boxes V W' :=
 ⟨hk.blk _ _ h.a (.inr ⟨_, _, _, rfl, by decide, by decide, by decide, by decide⟩), hk.blk _ _ h.b (.inr ⟨_, _, _, rfl, by decide, by decide, by decide, by decide⟩)⟩
set_option maxRecDepth 20000 in
set_option maxHeartbeats 8000000 in
theorem run_any {E : Env} {V : World} {m : Mach} {sv ov : Value} (h : MachAt E V m sv ov) (K : Nat) (hK : K ≤ 1000000) (ho : m.out.length + K ≤ 1000000000000) : Calls Tryz.prog 20 #[.pointer (some ⟨E.B, 0, none⟩), .int .i64 (K : Int)] V (RunPost E V (runM E K m)) := by
 have HB0 := Lib.hid (below_alloc (below1 V (Obj.cells #[.int .u16 0, .int .u16 0, .int .u16 0, .int .u16 0, .int .u16 0, .int .u16 0, .int .u16 0, .int .u16 0, .int .u16 0, .int .u16 0, .int .u16 0, .int .u16 0, .int .i64 0, .int .i64 0, .int .i64 0, .int .i64 0, .string ⟨#[]⟩, .slice none 0 0, .slice none 0 0] 36)) (Obj.cells #[.int .i64 0, .int .u16 0] 39))
 have HX0 : Hid (Boxes V ((V.alloc (Obj.cells #[.int .u16 0, .int .u16 0, .int .u16 0, .int .u16 0, .int .u16 0, .int .u16 0, .int .u16 0, .int .u16 0, .int .u16 0, .int .u16 0, .int .u16 0, .int .u16 0, .int .i64 0, .int .i64 0, .int .i64 0, .int .i64 0, .string ⟨#[]⟩, .slice none 0 0, .slice none 0 0] 36)).alloc (Obj.cells #[.int .i64 0, .int .u16 0] 39))) := Lib.hid ⟨blk_mid1 V _ _, by
  have h9 := alloc_at (V.alloc (Obj.cells #[.int .u16 0, .int .u16 0, .int .u16 0, .int .u16 0, .int .u16 0, .int .u16 0, .int .u16 0, .int .u16 0, .int .u16 0, .int .u16 0, .int .u16 0, .int .u16 0, .int .i64 0, .int .i64 0, .int .i64 0, .int .i64 0, .string ⟨#[]⟩, .slice none 0 0, .slice none 0 0] 36)) (Obj.cells #[.int .i64 0, .int .u16 0] 39)
  rw [World.size_alloc] at h9
  exact h9⟩
 have HM0 := Lib.hid (h.next HB0.out)
 have HBASE := Lib.hid h.base
 have HKK := Lib.hid hK
 have HOO := Lib.hid ho
 have hneg : ¬ (K : Int) < 0 := by omega
 clear h hK ho
 go_enter Tryz.func20, Tryz.ntmps20
 go_upto_region 1 with (fail)
 generalize (V.alloc _).alloc _ = W0 at *
 go_wp2_with fail
 go_loopw [9] (fun i_ wr => ∃ n : Nat, n ≤ K ∧ i_ = .int .i64 (n : Int) ∧ ∃ m1 sv1 ov1, MachAt E wr m1 sv1 ov1 ∧ Keeps E.base V wr ∧ Boxes V wr ∧ runM E K m = runM E (K - n) m1 ∧ m1.out.length + (K - n) ≤ 1000000000000) (fun i_ _ => K - (intOf i_).toNat)
 case atStart => exact ⟨0, Nat.zero_le _, rfl, m, sv, ov, HM0.out, Keeps.of_below HB0.out, HX0.out, rfl, HOO.out⟩
 case round =>
  obtain ⟨n, hn, rfl, m1, sv1, ov1, hM, hKp, hBx, hR, hO⟩ := hrel
  have HM := Lib.hid hM
  have HKP := Lib.hid hKp
  have HBX := Lib.hid hBx
  have HR := Lib.hid hR
  have HO := Lib.hid hO
  clear hM hKp hBx hR hO
  by_cases hlt : n < K
  ·have b0 : decide ((n : Int) < (K : Int)) = true := decide_eq_true (by omega)
   have HLT := Lib.hid hlt
   have x1 : IntKind.i64.wrap ((n : Int) + 1) = (n : Int) + 1 := IntWalk.i64_in _ (by have := HKK.out; omega)
   go_wp2_with fail
   refine (step_any HM.out (by have := HO.out; omega)).mono ?_
   intro e w3 hs
   obtain ⟨hk3, hs⟩ := hs
   have HK3 := Lib.hid (HKP.out.trans hk3)
   have HX3 := Lib.hid (HBX.out.next hk3)
   have hun : runM E (K - n) m1 = match stepM E m1 with | .ok m' => runM E (K - (n + 1)) m' | .error t => if t.1 = 0 then runM E (K - (n + 1)) m1 else (m1, t) := by
    rw [show K - n = (K - (n + 1)) + 1 by omega]
    rfl
   have HUN := Lib.hid hun
   clear hun hk3
   cases hst : stepM E m1 with
   | ok m2 =>
    rw [hst] at hs
    obtain ⟨rfl, sv2, ov2, hm2⟩ := hs
    have HM2 := Lib.hid (fun o => hm2.next (below1 w3 o))
    have HK4 := Lib.hid (fun o => HK3.out.trans (Keeps.of_below (base := E.base) (below1 w3 o)))
    have HX4 := Lib.hid (fun o => HX3.out.next (Keeps.of_below (base := E.base) (below1 w3 o)))
    have HR2 : Hid (runM E K m = runM E (K - (n + 1)) m2) := Lib.hid (by rw [HR.out, HUN.out, hst])
    have HO2 : Hid (m2.out.length + (K - (n + 1)) ≤ 1000000000000) := Lib.hid (by have := stepM_out hst; have := HO.out; have := HLT.out; omega)
    clear hm2 hst
    go_wp2_with fail
    go_roundw
    case rel => exact ⟨n + 1, by have := HLT.out; omega, by go_num, m2, sv2, ov2, HM2.out _, HK4.out _, HX4.out _, HR2.out, HO2.out⟩
    case measure => have := HLT.out; simp only [intOf]; omega
   | error t =>
    rw [hst] at hs
    obtain ⟨rfl, hm2⟩ := hs
    obtain ⟨tk, ti⟩ := t
    dsimp only
    have HM2 := Lib.hid (fun o => hm2.next (below1 w3 o))
    have HK4 := Lib.hid (fun o => HK3.out.trans (Keeps.of_below (base := E.base) (below1 w3 o)))
    have HX4 := Lib.hid (fun o => HX3.out.next (Keeps.of_below (base := E.base) (below1 w3 o)))
    by_cases h0 : tk = 0
    ·subst h0
     have HR2 : Hid (runM E K m = runM E (K - (n + 1)) m1) := Lib.hid (by rw [HR.out, HUN.out, hst]; exact if_pos rfl)
     have HO2 : Hid (m1.out.length + (K - (n + 1)) ≤ 1000000000000) := Lib.hid (by have := HO.out; omega)
     clear hm2 hst
     go_wp2_with fail
     go_roundw
     case rel => exact ⟨n + 1, by have := HLT.out; omega, by go_num, m1, sv1, ov1, HM2.out _, HK4.out _, HX4.out _, HR2.out, HO2.out⟩
     case measure => have := HLT.out; simp only [intOf]; omega
    ·have d0 : (tk != 0) = true := by simpa using h0
     have HR2 : Hid (runM E K m = (m1, (tk, ti))) := Lib.hid (by rw [HR.out, HUN.out, hst]; exact if_neg h0)
     have HT4 : Hid ((w3.alloc (Obj.cells #[.int .i64 tk, .int .u16 ti] 39)).heap[w3.heap.size]? = some (.cells #[.int .i64 tk, .int .u16 ti] 39 (0, 0))) := Lib.hid (alloc_at w3 _)
     have HM4 := Lib.hid (HM2.out (Obj.cells #[.int .i64 tk, .int .u16 ti] 39))
     have HK5 := Lib.hid (HK4.out (Obj.cells #[.int .i64 tk, .int .u16 ti] 39))
     have HX5 := Lib.hid (HX4.out (Obj.cells #[.int .i64 tk, .int .u16 ti] 39))
     clear hm2 hst h0 x1
     go_upto_region 5 with (fail)
     generalize w3.alloc _ = W4 at *
     clear HM2 HK4 HX4
     have KC : Hid (∀ W, Below W4.heap.size W4 W → W.heap[w3.heap.size]? = some (.cells #[.int .i64 tk, .int .u16 ti] 39 (0, 0)) ∧ MachAt E W m1 sv1 ov1) := Lib.hid fun W hW => ⟨(hW.block _ (Array.getElem?_eq_some_iff.1 HT4.out).1).trans HT4.out, HM4.out.next hW⟩
     refine' wp_region_flowU (S := fun w => w.heap[w3.heap.size]? = some (.cells #[.int .i64 tk, .int .u16 ti] 39 (0, 0))) [1] [3, 4] [[], [(16, 0)], [], [(17, 1)], [(18, 2)]] [(16, 0), (17, 1), (18, 2)] (relL [eqV _, Snapped W4 m1 (ramS m1.ram), eqV _, fun v V => True, fun v V => True]) [(3, _), (4, _)] (by kernel_rfl) (by kernel_rfl) rfl ?_ ?_ ?_
     rotate_left 2
     ·refine FlowU.val (by decide) _ (fun _ _ => Iff.rfl) ?_ ?_
      ·simp only [DepP, lQ]
       intro VV K hV hK
       go_simp
       exact hK
      refine FlowU.mem (by decide) ?_ ?_
      ·intro VV hV
       simp only [Dep, lQ]
       rintro x16 ⟨V16, rfl, hb16⟩
       intro K hK
       go_simp
       go_at_call 16
       refine (snap_any (KC.out _ hV).2).mono ?_
       rintro e w9 ⟨v9, rfl, hs9, h9⟩
       exact hK _ _ (hs9.low hV.size) h9
      refine FlowU.val (by decide) _ (fun _ _ => Iff.rfl) ?_ ?_
      ·simp only [DepP, lQ]
       intro VV K hV hK
       obtain q0 := Lib.cell_of_heap hV 0
       obtain q1 := Lib.cell_of_heap hV 1
       simp at q0 q1
       go_simp
       exact hK
      refine FlowU.store (by decide) rfl ?_
      refine FlowU.store (by decide) rfl ?_
      exact FlowU.nil
     ·exact fun w hW => (KC.out w hW).1
     ·intro VV hV
      simp only [Dep, lQ]
      rintro x16 ⟨V16, rfl, hb16⟩
      rintro x17 ⟨V17, ⟨p1, c1, p2, c2, rfl, hsn⟩, hb17⟩
      rintro x18 ⟨V18, rfl, hb18⟩
      have HSN := Lib.hid (hsn.next hb17)
      have HXV := Lib.hid (HX5.out.next (Keeps.of_below (base := E.base) hV))
      have HTV := Lib.hid (KC.out _ hV).1
      have HKV := Lib.hid (HK5.out.trans (Keeps.of_below (base := E.base) hV))
      have HNE : Hid (V.heap.size + 1 < w3.heap.size) := Lib.hid (Array.getElem?_eq_some_iff.1 HX3.out.b).1
      refine ⟨HTV.out, ?_⟩
      intro K1 hK1
      refine (if_pos (by rfl)).mpr ?_
      refine wp_store_row 36 _ _ rfl V.heap.size rfl #[.int .u16 (m1.R 0), .int .u16 (m1.R 1), .int .u16 (m1.R 2), .int .u16 (m1.R 3), .int .u16 (m1.R 4), .int .u16 (m1.R 5), .int .u16 (m1.R 6), .int .u16 (m1.R 7), .int .u16 m1.pc, .int .u16 m1.sp, .int .u16 m1.fp, .int .u16 m1.f, .int .i64 m1.bank, .int .i64 m1.steps, .int .i64 m1.inputs, .int .i64 m1.polls, .string (ramS m1.ram), .slice p1 m1.st.length c1, .slice p2 m1.out.length c2] rfl HXV.out.a info43 rfl (by simp [Value.oneCell']) ?_
      refine hK1 undef _ ?_
      clear hK1 K1
      simp only [Act.put]
      have HA6 := Lib.hid (setRow_heap _ _ _ #[.int .u16 (m1.R 0), .int .u16 (m1.R 1), .int .u16 (m1.R 2), .int .u16 (m1.R 3), .int .u16 (m1.R 4), .int .u16 (m1.R 5), .int .u16 (m1.R 6), .int .u16 (m1.R 7), .int .u16 m1.pc, .int .u16 m1.sp, .int .u16 m1.fp, .int .u16 m1.f, .int .i64 m1.bank, .int .i64 m1.steps, .int .i64 m1.inputs, .int .i64 m1.polls, .string (ramS m1.ram), .slice p1 m1.st.length c1, .slice p2 m1.out.length c2] _ _ HXV.out.a)
      have HB6 := Lib.hid ((setRow_other VV V.heap.size (V.heap.size + 1) #[.int .u16 (m1.R 0), .int .u16 (m1.R 1), .int .u16 (m1.R 2), .int .u16 (m1.R 3), .int .u16 (m1.R 4), .int .u16 (m1.R 5), .int .u16 (m1.R 6), .int .u16 (m1.R 7), .int .u16 m1.pc, .int .u16 m1.sp, .int .u16 m1.fp, .int .u16 m1.f, .int .i64 m1.bank, .int .i64 m1.steps, .int .i64 m1.inputs, .int .i64 m1.polls, .string (ramS m1.ram), .slice p1 m1.st.length c1, .slice p2 m1.out.length c2] (by omega)).trans HXV.out.b)
      have HT6 := Lib.hid ((setRow_other VV V.heap.size w3.heap.size #[.int .u16 (m1.R 0), .int .u16 (m1.R 1), .int .u16 (m1.R 2), .int .u16 (m1.R 3), .int .u16 (m1.R 4), .int .u16 (m1.R 5), .int .u16 (m1.R 6), .int .u16 (m1.R 7), .int .u16 m1.pc, .int .u16 m1.sp, .int .u16 m1.fp, .int .u16 m1.f, .int .i64 m1.bank, .int .i64 m1.steps, .int .i64 m1.inputs, .int .i64 m1.polls, .string (ramS m1.ram), .slice p1 m1.st.length c1, .slice p2 m1.out.length c2] (by have := HNE.out; omega)).trans HTV.out)
      have HS6 := Lib.hid (snap_row2 (C := #[.int .u16 (m1.R 0), .int .u16 (m1.R 1), .int .u16 (m1.R 2), .int .u16 (m1.R 3), .int .u16 (m1.R 4), .int .u16 (m1.R 5), .int .u16 (m1.R 6), .int .u16 (m1.R 7), .int .u16 m1.pc, .int .u16 m1.sp, .int .u16 m1.fp, .int .u16 m1.f, .int .i64 m1.bank, .int .i64 m1.steps, .int .i64 m1.inputs, .int .i64 m1.polls, .string (ramS m1.ram), .slice p1 m1.st.length c1, .slice p2 m1.out.length c2]) (by decide) HXV.out.a HSN.out)
      have HK6 := Lib.hid (keeps_row (C := #[.int .u16 (m1.R 0), .int .u16 (m1.R 1), .int .u16 (m1.R 2), .int .u16 (m1.R 3), .int .u16 (m1.R 4), .int .u16 (m1.R 5), .int .u16 (m1.R 6), .int .u16 (m1.R 7), .int .u16 m1.pc, .int .u16 m1.sp, .int .u16 m1.fp, .int .u16 m1.f, .int .i64 m1.bank, .int .i64 m1.steps, .int .i64 m1.inputs, .int .i64 m1.polls, .string (ramS m1.ram), .slice p1 m1.st.length c1, .slice p2 m1.out.length c2]) HKV.out (Nat.le_refl _))
      clear hV hsn hb17
      generalize World.setRow _ _ _ = W6 at *
      refine ⟨HT6.out, ?_⟩
      intro K1 hK1
      refine (if_pos (by rfl)).mpr ?_
      refine wp_store_row 39 _ _ rfl (V.heap.size + 1) rfl #[.int .i64 tk, .int .u16 ti] rfl HB6.out info46 rfl (by simp [Value.oneCell']) ?_
      refine hK1 undef _ ?_
      clear hK1 K1
      simp only [Act.put]
      have HA7 := Lib.hid ((setRow_other W6 (V.heap.size + 1) V.heap.size #[.int .i64 tk, .int .u16 ti] (by omega)).trans HA6.out)
      have HB7 := Lib.hid (setRow_heap _ _ _ #[.int .i64 tk, .int .u16 ti] _ _ HB6.out)
      have HT7 := Lib.hid ((setRow_other W6 (V.heap.size + 1) w3.heap.size #[.int .i64 tk, .int .u16 ti] (by have := HNE.out; omega)).trans HT6.out)
      have HS7 := Lib.hid (snap_row2 (C := #[.int .i64 tk, .int .u16 ti]) (by decide) HB6.out HS6.out)
      have HK7 := Lib.hid (keeps_row (C := #[.int .i64 tk, .int .u16 ti]) HK6.out (Nat.le_succ _))
      generalize World.setRow _ _ _ = W7 at *
      refine ⟨HT7.out, ?_⟩
      have HV4 := Lib.hid HK5.out.size
      go_wp2_with fail
      refine bodyPost_ret (v := .tuple #[.agg #[.int .u16 (m1.R 0), .int .u16 (m1.R 1), .int .u16 (m1.R 2), .int .u16 (m1.R 3), .int .u16 (m1.R 4), .int .u16 (m1.R 5), .int .u16 (m1.R 6), .int .u16 (m1.R 7), .int .u16 m1.pc, .int .u16 m1.sp, .int .u16 m1.fp, .int .u16 m1.f, .int .i64 m1.bank, .int .i64 m1.steps, .int .i64 m1.inputs, .int .i64 m1.polls, .string (ramS m1.ram), .slice p1 m1.st.length c1, .slice p2 m1.out.length c2], .agg #[.int .i64 tk, .int .u16 ti]]) (rows_result rfl _ _ V.heap.size (V.heap.size + 1) _ _ 36 39 rfl rfl HA7.out HB7.out Tryz.underlying36 Tryz.underlying39 info43 info46) rfl ?_
      rw [HR2.out]
      exact ⟨_, rfl, Snapped.low ⟨p1, c1, p2, c2, rfl, HS7.out⟩ HV4.out, HK7.out⟩
  ·obtain rfl : n = K := by omega
   have b0 : decide ((n : Int) < (n : Int)) = false := by simp
   have HR2 : Hid (runM E n m = (m1, (7, 0))) := Lib.hid (by rw [HR.out, Nat.sub_self]; rfl)
   clear hlt hn
   go_wp2_with fail
   refine (snap_any HM.out).mono ?_
   rintro e w9 ⟨v9, rfl, ⟨p1, c1, p2, c2, rfl, hsn⟩, h9⟩
   have HX9 := Lib.hid (HBX.out.next (Keeps.of_below (base := E.base) h9))
   have HS9 := Lib.hid hsn
   have HK9 := Lib.hid (HKP.out.trans (Keeps.of_below h9))
   have HVW := Lib.hid HKP.out.size
   clear hsn h9
   go_wp2_with (refine wpList_store_row 36 _ _ rfl rfl V.heap.size rfl #[.int .u16 (m1.R 0), .int .u16 (m1.R 1), .int .u16 (m1.R 2), .int .u16 (m1.R 3), .int .u16 (m1.R 4), .int .u16 (m1.R 5), .int .u16 (m1.R 6), .int .u16 (m1.R 7), .int .u16 m1.pc, .int .u16 m1.sp, .int .u16 m1.fp, .int .u16 m1.f, .int .i64 m1.bank, .int .i64 m1.steps, .int .i64 m1.inputs, .int .i64 m1.polls, .string (ramS m1.ram), .slice p1 m1.st.length c1, .slice p2 m1.out.length c2] rfl HX9.out.a info43 rfl (by simp [Value.oneCell']) ?_; refine Hid.out ?_)
   have HA6 := Lib.hid (setRow_heap _ _ _ #[.int .u16 (m1.R 0), .int .u16 (m1.R 1), .int .u16 (m1.R 2), .int .u16 (m1.R 3), .int .u16 (m1.R 4), .int .u16 (m1.R 5), .int .u16 (m1.R 6), .int .u16 (m1.R 7), .int .u16 m1.pc, .int .u16 m1.sp, .int .u16 m1.fp, .int .u16 m1.f, .int .i64 m1.bank, .int .i64 m1.steps, .int .i64 m1.inputs, .int .i64 m1.polls, .string (ramS m1.ram), .slice p1 m1.st.length c1, .slice p2 m1.out.length c2] _ _ HX9.out.a)
   have HB6 := Lib.hid ((setRow_other w9 V.heap.size (V.heap.size + 1) #[.int .u16 (m1.R 0), .int .u16 (m1.R 1), .int .u16 (m1.R 2), .int .u16 (m1.R 3), .int .u16 (m1.R 4), .int .u16 (m1.R 5), .int .u16 (m1.R 6), .int .u16 (m1.R 7), .int .u16 m1.pc, .int .u16 m1.sp, .int .u16 m1.fp, .int .u16 m1.f, .int .i64 m1.bank, .int .i64 m1.steps, .int .i64 m1.inputs, .int .i64 m1.polls, .string (ramS m1.ram), .slice p1 m1.st.length c1, .slice p2 m1.out.length c2] (by omega)).trans HX9.out.b)
   have HS6 := Lib.hid (snap_row2 (C := #[.int .u16 (m1.R 0), .int .u16 (m1.R 1), .int .u16 (m1.R 2), .int .u16 (m1.R 3), .int .u16 (m1.R 4), .int .u16 (m1.R 5), .int .u16 (m1.R 6), .int .u16 (m1.R 7), .int .u16 m1.pc, .int .u16 m1.sp, .int .u16 m1.fp, .int .u16 m1.f, .int .i64 m1.bank, .int .i64 m1.steps, .int .i64 m1.inputs, .int .i64 m1.polls, .string (ramS m1.ram), .slice p1 m1.st.length c1, .slice p2 m1.out.length c2]) (by decide) HX9.out.a HS9.out)
   have HK6 := Lib.hid (keeps_row (C := #[.int .u16 (m1.R 0), .int .u16 (m1.R 1), .int .u16 (m1.R 2), .int .u16 (m1.R 3), .int .u16 (m1.R 4), .int .u16 (m1.R 5), .int .u16 (m1.R 6), .int .u16 (m1.R 7), .int .u16 m1.pc, .int .u16 m1.sp, .int .u16 m1.fp, .int .u16 m1.f, .int .i64 m1.bank, .int .i64 m1.steps, .int .i64 m1.inputs, .int .i64 m1.polls, .string (ramS m1.ram), .slice p1 m1.st.length c1, .slice p2 m1.out.length c2]) HK9.out (Nat.le_refl _))
   generalize World.setRow _ _ _ = W6 at *
   refine Lib.hid ?_
   go_wp2_with (refine wpList_store_row 39 _ _ rfl rfl (V.heap.size + 1) rfl #[.int .i64 7, .int .u16 0] rfl HB6.out info46 rfl (by simp [Value.oneCell']) ?_; refine Hid.out ?_)
   have HA7 := Lib.hid ((setRow_other W6 (V.heap.size + 1) V.heap.size #[.int .i64 7, .int .u16 0] (by omega)).trans HA6.out)
   have HB7 := Lib.hid (setRow_heap _ _ _ #[.int .i64 7, .int .u16 0] _ _ HB6.out)
   have HS7 := Lib.hid (snap_row2 (C := #[.int .i64 7, .int .u16 0]) (by decide) HB6.out HS6.out)
   have HK7 := Lib.hid (keeps_row (C := #[.int .i64 7, .int .u16 0]) HK6.out (Nat.le_succ _))
   generalize World.setRow _ _ _ = W7 at *
   refine Lib.hid ?_
   go_wp2_with fail
   refine bodyPost_ret (v := .tuple #[.agg #[.int .u16 (m1.R 0), .int .u16 (m1.R 1), .int .u16 (m1.R 2), .int .u16 (m1.R 3), .int .u16 (m1.R 4), .int .u16 (m1.R 5), .int .u16 (m1.R 6), .int .u16 (m1.R 7), .int .u16 m1.pc, .int .u16 m1.sp, .int .u16 m1.fp, .int .u16 m1.f, .int .i64 m1.bank, .int .i64 m1.steps, .int .i64 m1.inputs, .int .i64 m1.polls, .string (ramS m1.ram), .slice p1 m1.st.length c1, .slice p2 m1.out.length c2], .agg #[.int .i64 7, .int .u16 0]]) (rows_result rfl _ _ V.heap.size (V.heap.size + 1) _ _ 36 39 rfl rfl HA7.out HB7.out Tryz.underlying36 Tryz.underlying39 info43 info46) rfl ?_
   rw [HR2.out]
   exact ⟨_, rfl, Snapped.low ⟨p1, c1, p2, c2, rfl, HS7.out⟩ HVW.out, HK7.out⟩
end Go.Proofs.YtieaicdihingkaaGreat
