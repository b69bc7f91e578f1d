/- Copies of rows: Clone of words and of events. -/
import Derived.Test.YtieaicdihingkaaGreatK20
import Derived.Laws.AppendOwnNone
import Derived.Test.YtieaicdihingkaaGreatJ0
namespace Go.Proofs.YtieaicdihingkaaGreat
set_option linter.unusedVariables false
set_option linter.unusedSimpArgs false
open Go.RowKit
/-- Where a list's cells lie, or that there are none. -/
def SrcAt (w : World) (p : Option Addr) (n : Nat) (xs : List Value) : Prop := n = 0 ∨ ∃ g, p = some ⟨g, 0, none⟩ ∧ g < w.heap.size ∧ ∀ j u, xs[j]? = some u → w.cell? ⟨g, j, none⟩ = some u
theorem SrcAt.kept {w w' : World} {p : Option Addr} {n : Nat} {xs : List Value} (h : SrcAt w p n xs) (hb : Below w.heap.size w w') : SrcAt w' p n xs := by
 rcases h with h | ⟨g, e, hg, hc⟩
 ·exact .inl h
 ·exact .inr ⟨g, e, Nat.lt_of_lt_of_le hg hb.size, fun j u hu => (hb.cell hg).trans (hc j u hu)⟩
theorem row_empty (w : World) (t base size : Nat) (h : base ≤ w.heap.size) : (w.alloc (.cells #[] t)).ownsRow base t size (.slice (some ⟨w.heap.size, 0, none⟩) 0 0) 0 [] :=
 ⟨by simp, .inr ⟨w.heap.size, 0, #[], rfl, h, alloc_at w _, Nat.le_refl _, Nat.zero_le _, by simp, by simp⟩⟩
/-- An append of a whole list, nil or not. -/
theorem append_src {P : Program} (w : World) {ops : Array Oper} {rest : List Oper} {o : Oper} {a : Act} {Q : Exit → Act → World → Prop} (hgd : o.guard = none) (s x : Operand) (t : TypeId)
  (ho : o.op = .call { callee := .builtin .append, args := #[s, x], argTypes := #[t, t] })
  (base : Nat) (e : TypeId) (i : TypeInfo) (z : Value) (size bytes : Nat) (ht : P.underlying t = some (.slice e)) (hi : P.info? e = some i) (hz : i.zero = some z)
  (hsize : i.size = size) (hby : i.bytes = bytes) (hzs : z.cells.size = size) (hsz : 0 < size)
  (v : Value) (hs : a.eval s = v) (hown : w.ownsRow base e size v 0 [])
  (p : Option Addr) (m c : Nat) (news : List Value) (hx : a.eval x = .slice p m c) (hl : news.length = m * size) (hr : SrcAt w p m news) (h1 : ∀ u ∈ news, u.oneCell' = true)
  (h63 : m ≤ maxLen) (hbytes : m * bytes ≤ 140737488355328) (hbase : base ≤ w.heap.size)
  (h : ∀ v' w', w'.ownsRow base e size v' m news → w.grownBy w' v.ownBlock → wpList P ops Q rest (a.put o.dst v') w') : wpList P ops Q (o :: rest) a w := by
 rcases p with _ | ad
 ·have hm : m = 0 := by
   rcases hr with h0 | ⟨g, e2, _⟩
   ·exact h0
   ·cases e2
  subst hm
  obtain rfl : news = [] := List.eq_nil_of_length_eq_zero (by simpa using hl)
  refine wpList_plain hgd fun K hK => ?_
  have hrun : (Builtin.append_ #[t, t] o.type #[v, .slice none 0 c]).run P w = .ok v w := by
   rcases hown.2 with ⟨rfl, _⟩ | ⟨g, cap, cur, rfl, _, _, hnc, _⟩
   ·simp [Builtin.append_, run_underlying ht, sizeOf, typeInfo, hi, Builtin.lenOf, Builtin.firstCells]
   ·simp [Builtin.append_, run_underlying ht, sizeOf, typeInfo, hi, Builtin.lenOf, Builtin.firstCells, storeCells]
  unfold Oper.wp execOp
  simp only [ho, resolve, invoke, builtin, Sem.run_bind, Sem.run_pure, Result.andThen_ok, List.map_toArray, List.map_cons, List.map_nil, hs, hx, hrun]
  exact hK _ _ (h v w hown (grown_below (Below.refl _ _) _))
 ·refine wpList_append_own w hgd s x t ho base e i z size bytes ht hi hz hsize hby hzs hsz v 0 [] hs hown ad m c news hx hl ?_ h1 (by omega) (by rw [Nat.zero_add]; exact hbytes) hbase (fun v' w' h2 h3 _ => h v' w' (by simpa using h2) h3)
  intro j u hu
  rcases hr with h0 | ⟨g, e2, _, hc⟩
  ·subst h0
   rw [List.eq_nil_of_length_eq_zero (show news.length = 0 by simpa using hl)] at hu
   simp at hu
  ·cases e2
   rw [show (⟨g, 0, none⟩ : Addr).add j = ⟨g, j, none⟩ from by unfold Addr.add; split <;> simp_all]
   exact hc j u hu
set_option maxRecDepth 8000 in
set_option maxHeartbeats 2000000 in
theorem clone_words (p : Option Addr) (c : Nat) (l : List Int) (w : World) (hl : l.length ≤ 1000000000000) (ho : SrcAt w p l.length (l.map (Value.int .u16))) :
  Calls Tryz.prog 22 #[.slice p l.length c] w fun e w' => ∃ v, e = .returned v ∧ w'.ownsRow w.heap.size 22 1 v l.length (l.map (Value.int .u16)) ∧ Below w.heap.size w w' := by
 obtain ⟨i9, hi9, hz9, hs9, hb9⟩ : ∃ i, Tryz.prog.info? 22 = some i ∧ i.zero = some (.int .u16 0) ∧ i.size = 1 ∧ i.bytes = 2 := by
  have := info22
  cases h : Tryz.prog.info? 22 with
  | none => rw [h] at this; cases this
  | some y => rw [h] at this; simp at this; exact ⟨y, rfl, this⟩
 rcases p with _ | ad
 ·have hnil : l = [] := by
   rcases ho with h | ⟨g, e, _⟩
   ·exact List.eq_nil_of_length_eq_zero h
   ·cases e
  subst hnil
  clear ho
  change Calls Tryz.prog 22 #[.slice none 0 c] w _
  have hk := fun (w : World) => Lib.run_eql_slice_nil (P := Tryz.prog) w 33 22 none 0 c 0 0 Tryz.underlying33
  go_enter Tryz.func22, Tryz.ntmps22
  go_wp2
  go_ret
  exact ⟨_, rfl, World.ownsRow_nil _ _ _ _, Below.refl _ _⟩
 ·have HS := Lib.hid ho
  clear ho
  have hk := fun (w : World) => Lib.run_eql_slice_nil (P := Tryz.prog) w 33 22 (some ad) l.length c 0 0 Tryz.underlying33
  have HE := Lib.hid (row_empty w 22 w.heap.size 1 (Nat.le_refl _))
  have HLN : Hid ((l.map (Value.int .u16)).length = l.length * 1) := Lib.hid (by simp)
  have HON : Hid (∀ u ∈ (l.map (Value.int .u16)), u.oneCell' = true) := Lib.hid (by
   intro u hu
   obtain ⟨x, _, rfl⟩ := List.mem_map.1 hu; rfl)
  go_enter Tryz.func22, Tryz.ntmps22
  go_wp2_with (at_builtin; refine append_src _ rfl (.tmp 5) (.tmp 6) 33 rfl w.heap.size 22 i9 (.int .u16 0) 1 2 Tryz.underlying33 hi9 hz9 hs9 hb9 rfl (by decide) _ rfl HE.out (some ad) l.length c (l.map (Value.int .u16)) rfl HLN.out (HS.out.kept (below1 w _)) HON.out (by unfold maxLen; omega) (by omega) (by simp) ?_)
  intro v1 w1 hown1 hg1
  have HO := Lib.hid hown1
  have HB := Lib.hid (((below1 w (Obj.cells #[] 22))).grown hg1 (by simp) (fun k e => by simp [Value.ownBlock] at e; omega))
  clear hown1 hg1
  go_wp2
  go_ret
  exact ⟨v1, rfl, HO.out, HB.out⟩
set_option maxRecDepth 8000 in
set_option maxHeartbeats 2000000 in
theorem clone_events (p : Option Addr) (c : Nat) (l : List (Int × Int)) (w : World) (hl : l.length ≤ 1000000000000) (ho : SrcAt w p l.length (outC l)) :
  Calls Tryz.prog 21 #[.slice p l.length c] w fun e w' => ∃ v, e = .returned v ∧ w'.ownsRow w.heap.size 51 2 v l.length (outC l) ∧ Below w.heap.size w w' := by
 obtain ⟨i9, hi9, hz9, hs9, hb9⟩ : ∃ i, Tryz.prog.info? 51 = some i ∧ i.zero = some (.agg #[.int .u16 0, .int .u16 0]) ∧ i.size = 2 ∧ i.bytes = 4 := by
  have := info54
  cases h : Tryz.prog.info? 51 with
  | none => rw [h] at this; cases this
  | some y => rw [h] at this; simp at this; exact ⟨y, rfl, this⟩
 rcases p with _ | ad
 ·have hnil : l = [] := by
   rcases ho with h | ⟨g, e, _⟩
   ·exact List.eq_nil_of_length_eq_zero h
   ·cases e
  subst hnil
  clear ho
  change Calls Tryz.prog 21 #[.slice none 0 c] w _
  have hk := fun (w : World) => Lib.run_eql_slice_nil (P := Tryz.prog) w 34 51 none 0 c 0 0 Tryz.underlying34
  go_enter Tryz.func21, Tryz.ntmps21
  go_wp2
  go_ret
  exact ⟨_, rfl, World.ownsRow_nil _ _ _ _, Below.refl _ _⟩
 ·have HS := Lib.hid ho
  clear ho
  have hk := fun (w : World) => Lib.run_eql_slice_nil (P := Tryz.prog) w 34 51 (some ad) l.length c 0 0 Tryz.underlying34
  have HE := Lib.hid (row_empty w 51 w.heap.size 2 (Nat.le_refl _))
  have HLN : Hid ((outC l).length = l.length * 2) := Lib.hid (by exact outC_length l)
  have HON : Hid (∀ u ∈ (outC l), u.oneCell' = true) := Lib.hid (by
   intro u hu
   obtain ⟨x, _, hx⟩ := List.mem_flatMap.1 hu; simp at hx; rcases hx with rfl | rfl <;> rfl)
  go_enter Tryz.func21, Tryz.ntmps21
  go_wp2_with (at_builtin; refine append_src _ rfl (.tmp 5) (.tmp 6) 34 rfl w.heap.size 51 i9 (.agg #[.int .u16 0, .int .u16 0]) 2 4 Tryz.underlying34 hi9 hz9 hs9 hb9 rfl (by decide) _ rfl HE.out (some ad) l.length c (outC l) rfl HLN.out (HS.out.kept (below1 w _)) HON.out (by unfold maxLen; omega) (by omega) (by simp) ?_)
  intro v1 w1 hown1 hg1
  have HO := Lib.hid hown1
  have HB := Lib.hid (((below1 w (Obj.cells #[] 51))).grown hg1 (by simp) (fun k e => by simp [Value.ownBlock] at e; omega))
  clear hown1 hg1
  go_wp2
  go_ret
  exact ⟨v1, rfl, HO.out, HB.out⟩
end Go.Proofs.YtieaicdihingkaaGreat
namespace Go.Proofs.YtieaicdihingkaaGreat
set_option linter.unusedVariables false
set_option linter.unusedSimpArgs false
open Go.RowKit
def ramL (r : Nat → Int) (n : Nat) : List UInt8 := (List.range n).map fun j => UInt8.ofNat (r j).toNat
def ramS (r : Nat → Int) : ByteArray := ⟨(ramL r 8192).toArray⟩
theorem own_src {w : World} {base e size n : Nat} {p : Option Addr} {k c : Nat} {xs : List Value} (h : w.ownsRow base e size (.slice p k c) n xs) : SrcAt w p n xs := by
 rcases h.2 with ⟨_, h0⟩ | ⟨g, cap, cur, e1, hb, hg, hnc, hcm, hcs, ht⟩
 ·exact .inl h0
 ·injection e1 with e1 e2 e3
  refine .inr ⟨g, e1, (Array.getElem?_eq_some_iff.1 hg).1, fun j u hu => ?_⟩
  rw [Lib.cell_of_heap hg j]
  rw [← ht, List.getElem?_take] at hu
  split at hu
  ·simpa using hu
  ·cases hu
theorem own_slice2 {w : World} {base e n : Nat} {v : Value} {xs : List Value} {size : Nat} (h : w.ownsRow base e size v n xs) : ∃ (p : Option Addr) (c : Nat), v = .slice p n c := by
 rcases h.2 with ⟨rfl, rfl⟩ | ⟨g, cap, cur, rfl, _⟩
 ·exact ⟨none, 0, rfl⟩
 ·exact ⟨_, _, rfl⟩
theorem ram_conv (n : Nat) (r : Nat → Int) (g : Nat) (V : World) (hc : ∀ j, j < n → V.cell? ⟨g, j, none⟩ = some (.int .u8 (r j)) ∧ 0 ≤ r j ∧ r j < 256) : (convert 42 9 (.slice (some ⟨g, 0, none⟩) n n)).run Tryz.prog V = .ok (.string ⟨(ramL r n).toArray⟩) V := by
 have hl : (ramL r n).length = n := by unfold ramL; simp
 have hr := run_convert_bytes_back (P := Tryz.prog) V 42 9 5 ⟨g, 0, none⟩ n (ramL r n) Tryz.underlying42 Tryz.underlying5 Tryz.underlying9 (by
  intro j hj
  rw [hl] at hj
  obtain ⟨h1, h2, h3⟩ := hc j hj
  have he : (ramL r n)[j]? = some (UInt8.ofNat (r j).toNat) := by unfold ramL; rw [List.getElem?_map, List.getElem?_range hj]; rfl
  have hx := byte_one (r j) h2 h3
  rw [show (⟨g, 0, none⟩ : Addr).add j = ⟨g, j, none⟩ from by unfold Addr.add; split <;> simp_all]
  rw [h1]
  have he2 : (ramL r n)[j]'(by rw [hl]; exact hj) = UInt8.ofNat (r j).toNat := by
   have h3 := List.getElem?_eq_getElem (l := ramL r n) (i := j) (by rw [hl]; exact hj)
   rw [he] at h3
   exact (Option.some.inj h3).symm
  rw [he2, hx])
 rw [hl] at hr
 exact hr
theorem ram_run {E : Env} {V : World} {m : Mach} {sv ov : Value} (h : MachAt E V m sv ov) : (convert 42 9 (.slice (some ⟨E.ramB, 0, none⟩) 8192 8192)).run Tryz.prog V = .ok (.string (ramS m.ram)) V :=
 ram_conv 8192 m.ram E.ramB V fun j hj => ⟨(h.ramC j hj).1, h.ok.ram j⟩
structure SnapIn (W w' : World) (m : Mach) (vs vo : Value) : Prop where
 st : w'.ownsRow W.heap.size 22 1 vs m.st.length (m.st.map (Value.int .u16))
 out : w'.ownsRow W.heap.size 51 2 vo m.out.length (outC m.out)
theorem SnapIn.next {W w w' : World} {m : Mach} {vs vo : Value} (h : SnapIn W w m vs vo) (hb : Below w.heap.size w w') : SnapIn W w' m vs vo := ⟨own_next h.st hb, own_next h.out hb⟩
/-- A state as a value: its words, RAM, stack and events. -/
def Snapped (W : World) (m : Mach) (S : ByteArray) (v : Value) (V : World) : Prop := ∃ p c p2 c2, v = .agg #[.int .u16 (m.R 0), .int .u16 (m.R 1), .int .u16 (m.R 2), .int .u16 (m.R 3), .int .u16 (m.R 4), .int .u16 (m.R 5), .int .u16 (m.R 6), .int .u16 (m.R 7), .int .u16 m.pc, .int .u16 m.sp, .int .u16 m.fp, .int .u16 m.f, .int .i64 m.bank, .int .i64 m.steps, .int .i64 m.inputs, .int .i64 m.polls, .string S, .slice p m.st.length c, .slice p2 m.out.length c2] ∧ SnapIn W V m (.slice p m.st.length c) (.slice p2 m.out.length c2)
/-- A struct stored whole into a block of its own. -/
theorem wp_store_row {o : Oper} {a : Act} {K : Act → World → Prop} {Q : Exit → Act → World → Prop} {W : World} (t : TypeId) (x y : Operand) (ho : o.op = .store t x y) (N : Nat) (hx : a.eval x = .pointer (some ⟨N, 0, none⟩)) (C : Array Value) (hy : a.eval y = .agg C) {c : Array Value} {e : TypeId}
  (hN : W.heap[N]? = some (.cells c e (0, 0))) (hi : (Tryz.prog.info? t).map (·.size) = some C.size) (hs : c.size = C.size) (h1 : C.all (·.oneCell') = true) (h : K (a.put o.dst undef) (W.setRow N C)) : o.wp Tryz.prog a W K Q := by
 have hr := run_storeVar_row (P := Tryz.prog) W N e t c C hN hi hs h1
 unfold Oper.wp execOp
 simp only [ho, hx, hy, Instr.storeAt, Instr.sureAddr, Sem.run_bind, Sem.run_pure, Result.andThen_ok, hr]
 exact h
theorem row_result {fn : Func} {p : Tmp} {t : TypeId} (h : fn.results = #[.cell p t]) (tmps : Array Value) (w : World) (N : Nat) (C : Array Value) (e : TypeId) (hp : tmps[p]?.getD undef = .pointer (some ⟨N, 0, none⟩)) (hN : w.heap[N]? = some (.cells C e (0, 0))) {fs : Array Field} (hu : Tryz.prog.underlying t = some (.struct fs))
  (hi : (Tryz.prog.info? t).map (·.size) = some C.size) : (results fn tmps).run Tryz.prog w = .ok (.agg C) w := by
 have hl := run_loadVar_row (P := Tryz.prog) w N e t C (0, 0) _ hN hu rfl hi
 simp only [results, h]
 simp [Sem.run_bind, Result.andThen, hp, asAddr, hl]
theorem setRow_below {w W0 : World} {A : Nat} {C : Array Value} (hb : Below W0.heap.size W0 w) (hA : W0.heap.size ≤ A) : Below W0.heap.size W0 (w.setRow A C) :=
 ⟨hb.os, hb.tape, hb.output, by simpa [World.setRow] using hb.size, fun k hk => (setRow_other w A k C (by omega)).trans (hb.block k hk)⟩
theorem own_row {w : World} {base e size n N : Nat} {v : Value} {xs : List Value} {C : Array Value} (h : w.ownsRow base e size v n xs) (hN : v.ownBlock ≠ some N) : (w.setRow N C).ownsRow base e size v n xs :=
 h.kept (row := some N) ⟨rfl, rfl, rfl, by simp [World.setRow], fun k hk hne => setRow_other w N k C (fun e => hne (by rw [e]))⟩ (.inr hN)
theorem snap_row {W0 : World} {m : Mach} {vs vo : Value} {A : Nat} {w : World} {c : Array Value} {C : Array Value} (h0 : w.heap[A]? = some (.cells c 36 (0, 0))) (hs : SnapIn W0 w m vs vo) : SnapIn W0 (w.setRow A C) m vs vo := by
 refine ⟨own_row hs.st fun e => ?_, own_row hs.out fun e => ?_⟩
 ·obtain ⟨_, c, f, hk⟩ := own_kind hs.st _ e
  rw [h0] at hk; simp at hk
 ·obtain ⟨_, c, f, hk⟩ := own_kind hs.out _ e
  rw [h0] at hk; simp at hk
theorem info43 : (Tryz.prog.info? 36).map (·.size) = some 19 := by kernel_rfl
def WordsTo (W : World) (m : Mach) (v : Value) (V : World) : Prop := V.ownsRow W.heap.size 22 1 v m.st.length (m.st.map (Value.int .u16))
def EventsTo (W : World) (m : Mach) (v : Value) (V : World) : Prop := V.ownsRow W.heap.size 51 2 v m.out.length (outC m.out)
theorem words_to {W V V' : World} {m : Mach} {v : Value} (h : V'.ownsRow V.heap.size 22 1 v m.st.length (m.st.map (Value.int .u16))) (hb : Below W.heap.size W V) : WordsTo W m v V' := own_low h hb.size
theorem events_to {W V V' : World} {m : Mach} {v : Value} (h : V'.ownsRow V.heap.size 51 2 v m.out.length (outC m.out)) (hb : Below W.heap.size W V) : EventsTo W m v V' := own_low h hb.size
set_option maxRecDepth 20000 in
set_option maxHeartbeats 8000000 in
theorem snap_any {E : Env} {V : World} {m : Mach} {sv ov : Value} (h : MachAt E V m sv ov) : Calls Tryz.prog 16 #[.pointer (some ⟨E.B, 0, none⟩)] V fun e w' => ∃ v, e = .returned v ∧ Snapped V m (ramS m.ram) v w' ∧ Below V.heap.size V w' := by
 have hb0 := below1 V (Obj.cells #[.int .u16 0, .int .u16 0, .int .u16 0, .int .u16 0, .int .u16 0, .int .u16 0, .int .u16 0, .int .u16 0, .int .u16 0, .int .u16 0, .int .u16 0, .int .u16 0, .int .i64 0, .int .i64 0, .int .i64 0, .int .i64 0, .string ⟨#[]⟩, .slice none 0 0, .slice none 0 0] 36)
 have HB0 := Lib.hid hb0
 have HM := Lib.hid (h.next hb0)
 have HN0 : Hid ((V.alloc (Obj.cells #[.int .u16 0, .int .u16 0, .int .u16 0, .int .u16 0, .int .u16 0, .int .u16 0, .int .u16 0, .int .u16 0, .int .u16 0, .int .u16 0, .int .u16 0, .int .u16 0, .int .i64 0, .int .i64 0, .int .i64 0, .int .i64 0, .string ⟨#[]⟩, .slice none 0 0, .slice none 0 0] 36)).heap[V.heap.size]? = some (.cells #[.int .u16 0, .int .u16 0, .int .u16 0, .int .u16 0, .int .u16 0, .int .u16 0, .int .u16 0, .int .u16 0, .int .u16 0, .int .u16 0, .int .u16 0, .int .u16 0, .int .i64 0, .int .i64 0, .int .i64 0, .int .i64 0, .string ⟨#[]⟩, .slice none 0 0, .slice none 0 0] 36 (0, 0))) := Lib.hid (alloc_at V _)
 have HV : Hid (V.heap.size ≤ (V.alloc (Obj.cells #[.int .u16 0, .int .u16 0, .int .u16 0, .int .u16 0, .int .u16 0, .int .u16 0, .int .u16 0, .int .u16 0, .int .u16 0, .int .u16 0, .int .u16 0, .int .u16 0, .int .i64 0, .int .i64 0, .int .i64 0, .int .i64 0, .string ⟨#[]⟩, .slice none 0 0, .slice none 0 0] 36)).heap.size) := Lib.hid (by simp)
 have HOL := Lib.hid h.ok.out
 have HSL := Lib.hid h.ok.len
 obtain ⟨sp, sc, hsv⟩ := own_slice2 h.st
 obtain ⟨op, oc, hov⟩ := own_slice2 h.out
 subst hsv hov
 have HCV0 : Hid (∀ W, Below (V.alloc (Obj.cells #[.int .u16 0, .int .u16 0, .int .u16 0, .int .u16 0, .int .u16 0, .int .u16 0, .int .u16 0, .int .u16 0, .int .u16 0, .int .u16 0, .int .u16 0, .int .u16 0, .int .i64 0, .int .i64 0, .int .i64 0, .int .i64 0, .string ⟨#[]⟩, .slice none 0 0, .slice none 0 0] 36)).heap.size (V.alloc (Obj.cells #[.int .u16 0, .int .u16 0, .int .u16 0, .int .u16 0, .int .u16 0, .int .u16 0, .int .u16 0, .int .u16 0, .int .u16 0, .int .u16 0, .int .u16 0, .int .u16 0, .int .i64 0, .int .i64 0, .int .i64 0, .int .i64 0, .string ⟨#[]⟩, .slice none 0 0, .slice none 0 0] 36)) W → (convert 42 9 (.slice (some ⟨E.ramB, 0, none⟩) 8192 8192)).run Tryz.prog W = .ok (.string (ramS m.ram)) W) := Lib.hid fun W hW => ram_run (HM.out.next hW)
 generalize ramS m.ram = S at *
 clear h hb0
 go_enter Tryz.func16, Tryz.ntmps16
 go_upto_region 1 with (fail)
 generalize V.alloc _ = W0 at *
 refine' wp_region_flowR [[], [(3, 0)], [(4, 1)], [(5, 2)], [], [(7, 4)], [(8, 5)], [(9, 6)], [(10, 7)], [], [(12, 9)], [(13, 10)], [(14, 11)], [(15, 12)], [], [(17, 14)], [(18, 15)], [(19, 16)], [(20, 17)], [(6, 3), (11, 8), (16, 13), (21, 18)], [(3, 0), (4, 1), (5, 2), (6, 3), (7, 4), (8, 5), (9, 6), (10, 7), (11, 8), (12, 9), (13, 10), (14, 11), (15, 12), (16, 13), (17, 14), (18, 15), (19, 16), (20, 17), (21, 18), (22, 19)]] (relL [eqV _, eqV _, eqV _, eqV _, eqV _, eqV _, eqV _, eqV _, eqV _, eqV _, eqV _, eqV _, eqV _, WordsTo W0 m, eqV _, eqV _, eqV _, eqV _, EventsTo W0 m, Snapped W0 m S]) (by kernel_rfl) (by kernel_rfl) ?_
 rotate_left 17
 iterate 13
  refine FlowR.step ?_ ?_
  ·intro VV hV
   simp only [Dep, lQ]
   repeat rintro _ ⟨_, rfl, _⟩
   intro K hK
   obtain hm := HM.out.next hV
   obtain c7 := hm.cell 7 _ rfl
   obtain c8 := hm.cell 8 _ rfl
   obtain c9 := hm.cell 9 _ rfl
   obtain c10 := hm.cell 10 _ rfl
   obtain c11 := hm.cell 11 _ rfl
   obtain c12 := hm.cell 12 _ rfl
   obtain c13 := hm.cell 13 _ rfl
   obtain c14 := hm.cell 14 _ rfl
   obtain c15 := hm.cell 15 _ rfl
   obtain c16 := hm.cell 16 _ rfl
   obtain c17 := hm.cell 17 _ rfl
   obtain c18 := hm.cell 18 _ rfl
   obtain c19 := hm.cell 19 _ rfl
   obtain c20 := hm.cell 20 _ rfl
   obtain c21 := hm.cell 21 _ rfl
   obtain c22 := hm.cell 22 _ rfl
   obtain c23 := hm.cell 23 _ rfl
   obtain c24 := hm.cell 24 _ rfl
   obtain c25 := hm.cell 25 _ rfl
   obtain hcv := HCV0.out _ hV
   go_simp
   refine hK _ _ ?_ (Below.refl _ _)
   simp only [lR]
   exact rfl
 refine FlowR.step ?_ ?_
 ·intro VV hV
  simp only [Dep, lQ]
  rintro x15 ⟨V15, rfl, hb15⟩
  intro K hK
  go_simp
  go_at_call 22
  refine (clone_words sp sc m.st _ (by have := HSL.out; omega) (own_src (HM.out.next hV).st)).mono ?_
  rintro e w9 ⟨v9, rfl, ho9, h9⟩
  exact hK _ _ (words_to ho9 hV) h9
 iterate 4
  refine FlowR.step ?_ ?_
  ·intro VV hV
   simp only [Dep, lQ]
   repeat rintro _ ⟨_, rfl, _⟩
   intro K hK
   obtain hm := HM.out.next hV
   obtain c7 := hm.cell 7 _ rfl
   obtain c8 := hm.cell 8 _ rfl
   obtain c9 := hm.cell 9 _ rfl
   obtain c10 := hm.cell 10 _ rfl
   obtain c11 := hm.cell 11 _ rfl
   obtain c12 := hm.cell 12 _ rfl
   obtain c13 := hm.cell 13 _ rfl
   obtain c14 := hm.cell 14 _ rfl
   obtain c15 := hm.cell 15 _ rfl
   obtain c16 := hm.cell 16 _ rfl
   obtain c17 := hm.cell 17 _ rfl
   obtain c18 := hm.cell 18 _ rfl
   obtain c19 := hm.cell 19 _ rfl
   obtain c20 := hm.cell 20 _ rfl
   obtain c21 := hm.cell 21 _ rfl
   obtain c22 := hm.cell 22 _ rfl
   obtain c23 := hm.cell 23 _ rfl
   obtain c24 := hm.cell 24 _ rfl
   obtain c25 := hm.cell 25 _ rfl
   obtain hcv := HCV0.out _ hV
   go_simp
   refine hK _ _ ?_ (Below.refl _ _)
   simp only [lR]
   exact rfl
 refine FlowR.step ?_ ?_
 ·intro VV hV
  simp only [Dep, lQ]
  rintro x20 ⟨V20, rfl, hb20⟩
  intro K hK
  go_simp
  go_at_call 21
  refine (clone_events op oc m.out _ HOL.out (own_src (HM.out.next hV).out)).mono ?_
  rintro e w9 ⟨v9, rfl, ho9, h9⟩
  exact hK _ _ (events_to ho9 hV) h9
 refine FlowR.step ?_ ?_
 ·intro VV hV
  simp only [Dep, lQ]
  rintro x6 ⟨V6, rfl, hb6⟩
  rintro x11 ⟨V11, rfl, hb11⟩
  rintro x16 ⟨V16, hw, hb16⟩
  rintro x21 ⟨V21, he, hb21⟩
  intro K hK
  obtain ⟨pw, cw, rfl⟩ := own_slice2 hw
  obtain ⟨pe, ce, rfl⟩ := own_slice2 he
  go_simp
  exact hK _ _ ⟨pw, cw, pe, ce, rfl, own_next hw hb16, own_next he hb21⟩ (Below.refl _ _)
 refine FlowR.last ?_
 intro VV hV
 simp only [Dep, lQ]
 rintro x3 ⟨V3, rfl, hb3⟩
 rintro x4 ⟨V4, rfl, hb4⟩
 rintro x5 ⟨V5, rfl, hb5⟩
 rintro x6 ⟨V6, rfl, hb6⟩
 rintro x7 ⟨V7, rfl, hb7⟩
 rintro x8 ⟨V8, rfl, hb8⟩
 rintro x9 ⟨V9, rfl, hb9⟩
 rintro x10 ⟨V10, rfl, hb10⟩
 rintro x11 ⟨V11, rfl, hb11⟩
 rintro x12 ⟨V12, rfl, hb12⟩
 rintro x13 ⟨V13, rfl, hb13⟩
 rintro x14 ⟨V14, rfl, hb14⟩
 rintro x15 ⟨V15, rfl, hb15⟩
 rintro x16 ⟨V16, hw, hb16⟩
 rintro x17 ⟨V17, rfl, hb17⟩
 rintro x18 ⟨V18, rfl, hb18⟩
 rintro x19 ⟨V19, rfl, hb19⟩
 rintro x20 ⟨V20, rfl, hb20⟩
 rintro x21 ⟨V21, he, hb21⟩
 rintro x22 ⟨V22, ⟨p1, c1, p2, c2, rfl, hsn⟩, hb22⟩
 intro K hK
 have HN3 := Lib.hid ((hV.block _ (Array.getElem?_eq_some_iff.1 HN0.out).1).trans HN0.out)
 have HS3 := Lib.hid (hsn.next hb22)
 have HB3 := Lib.hid (below_next HB0.out hV)
 refine (if_pos (by rfl)).mpr ?_
 refine wp_store_row 36 _ _ rfl V.heap.size rfl #[.int .u16 (m.R 0), .int .u16 (m.R 1), .int .u16 (m.R 2), .int .u16 (m.R 3), .int .u16 (m.R 4), .int .u16 (m.R 5), .int .u16 (m.R 6), .int .u16 (m.R 7), .int .u16 m.pc, .int .u16 m.sp, .int .u16 m.fp, .int .u16 m.f, .int .i64 m.bank, .int .i64 m.steps, .int .i64 m.inputs, .int .i64 m.polls, .string S, .slice p1 m.st.length c1, .slice p2 m.out.length c2] rfl HN3.out info43 rfl (by simp [Value.oneCell']) ?_
 refine hK _ _ ?_
 have HK1 := Lib.hid (setRow_heap _ _ _ #[.int .u16 (m.R 0), .int .u16 (m.R 1), .int .u16 (m.R 2), .int .u16 (m.R 3), .int .u16 (m.R 4), .int .u16 (m.R 5), .int .u16 (m.R 6), .int .u16 (m.R 7), .int .u16 m.pc, .int .u16 m.sp, .int .u16 m.fp, .int .u16 m.f, .int .i64 m.bank, .int .i64 m.steps, .int .i64 m.inputs, .int .i64 m.polls, .string S, .slice p1 m.st.length c1, .slice p2 m.out.length c2] _ _ HN3.out)
 have HK2 := Lib.hid (setRow_below (A := V.heap.size) (C := #[.int .u16 (m.R 0), .int .u16 (m.R 1), .int .u16 (m.R 2), .int .u16 (m.R 3), .int .u16 (m.R 4), .int .u16 (m.R 5), .int .u16 (m.R 6), .int .u16 (m.R 7), .int .u16 m.pc, .int .u16 m.sp, .int .u16 m.fp, .int .u16 m.f, .int .i64 m.bank, .int .i64 m.steps, .int .i64 m.inputs, .int .i64 m.polls, .string S, .slice p1 m.st.length c1, .slice p2 m.out.length c2]) HB3.out (Nat.le_refl _))
 have HK3 := Lib.hid (snap_row (C := #[.int .u16 (m.R 0), .int .u16 (m.R 1), .int .u16 (m.R 2), .int .u16 (m.R 3), .int .u16 (m.R 4), .int .u16 (m.R 5), .int .u16 (m.R 6), .int .u16 (m.R 7), .int .u16 m.pc, .int .u16 m.sp, .int .u16 m.fp, .int .u16 m.f, .int .i64 m.bank, .int .i64 m.steps, .int .i64 m.inputs, .int .i64 m.polls, .string S, .slice p1 m.st.length c1, .slice p2 m.out.length c2]) HN3.out HS3.out)
 clear hK hV hsn
 simp only [Act.put]
 generalize World.setRow _ _ _ = V5 at *
 go_wp2_with fail
 refine bodyPost_ret (v := .agg #[.int .u16 (m.R 0), .int .u16 (m.R 1), .int .u16 (m.R 2), .int .u16 (m.R 3), .int .u16 (m.R 4), .int .u16 (m.R 5), .int .u16 (m.R 6), .int .u16 (m.R 7), .int .u16 m.pc, .int .u16 m.sp, .int .u16 m.fp, .int .u16 m.f, .int .i64 m.bank, .int .i64 m.steps, .int .i64 m.inputs, .int .i64 m.polls, .string S, .slice p1 m.st.length c1, .slice p2 m.out.length c2]) (row_result rfl _ _ V.heap.size _ 36 rfl HK1.out Tryz.underlying36 info43) rfl ⟨_, rfl, ⟨p1, c1, p2, c2, rfl, ⟨own_low HK3.out.st HV.out, own_low HK3.out.out HV.out⟩⟩, HK2.out⟩
end Go.Proofs.YtieaicdihingkaaGreat
