/- Copies of rows: Clone of words and of events. -/
import Derived.Test.YtieaicdihingkaaK20
import Derived.Laws.AppendOwnNone
namespace Go.Proofs.Ytieaicdihingkaa
set_option linter.unusedVariables false
set_option linter.unusedSimpArgs false
open Go.RowKit
/-- Where a list's cells lie, or that there are none. -/
def SrcAt (w : World) (p : Option Addr) (n : Nat) (xs : List Value) : Prop := n = 0 ∨ ∃ g, p = some ⟨g, 0, none⟩ ∧ g < w.heap.size ∧ ∀ j u, xs[j]? = some u → w.cell? ⟨g, j, none⟩ = some u
theorem SrcAt.kept {w w' : World} {p : Option Addr} {n : Nat} {xs : List Value} (h : SrcAt w p n xs) (hb : Below w.heap.size w w') : SrcAt w' p n xs := by
 rcases h with h | ⟨g, e, hg, hc⟩
 ·exact .inl h
 ·exact .inr ⟨g, e, Nat.lt_of_lt_of_le hg hb.size, fun j u hu => (hb.cell hg).trans (hc j u hu)⟩
theorem row_empty (w : World) (t base size : Nat) (h : base ≤ w.heap.size) : (w.alloc (.cells #[] t)).ownsRow base t size (.slice (some ⟨w.heap.size, 0, none⟩) 0 0) 0 [] :=
 ⟨by simp, .inr ⟨w.heap.size, 0, #[], rfl, h, alloc_at w _, Nat.le_refl _, Nat.zero_le _, by simp, by simp⟩⟩
/-- An append of a whole list, nil or not. -/
theorem append_src {P : Program} (w : World) {ops : Array Oper} {rest : List Oper} {o : Oper} {a : Act} {Q : Exit → Act → World → Prop} (hgd : o.guard = none) (s x : Operand) (t : TypeId)
  (ho : o.op = .call { callee := .builtin .append, args := #[s, x], argTypes := #[t, t] })
  (base : Nat) (e : TypeId) (i : TypeInfo) (z : Value) (size bytes : Nat) (ht : P.underlying t = some (.slice e)) (hi : P.info? e = some i) (hz : i.zero = some z)
  (hsize : i.size = size) (hby : i.bytes = bytes) (hzs : z.cells.size = size) (hsz : 0 < size)
  (v : Value) (hs : a.eval s = v) (hown : w.ownsRow base e size v 0 [])
  (p : Option Addr) (m c : Nat) (news : List Value) (hx : a.eval x = .slice p m c) (hl : news.length = m * size) (hr : SrcAt w p m news) (h1 : ∀ u ∈ news, u.oneCell' = true)
  (h63 : m ≤ maxLen) (hbytes : m * bytes ≤ 140737488355328) (hbase : base ≤ w.heap.size)
  (h : ∀ v' w', w'.ownsRow base e size v' m news → w.grownBy w' v.ownBlock → wpList P ops Q rest (a.put o.dst v') w') : wpList P ops Q (o :: rest) a w := by
 rcases p with _ | ad
 ·have hm : m = 0 := by
   rcases hr with h0 | ⟨g, e2, _⟩
   ·exact h0
   ·cases e2
  subst hm
  obtain rfl : news = [] := List.eq_nil_of_length_eq_zero (by simpa using hl)
  refine wpList_plain hgd fun K hK => ?_
  have hrun : (Builtin.append_ #[t, t] o.type #[v, .slice none 0 c]).run P w = .ok v w := by
   rcases hown.2 with ⟨rfl, _⟩ | ⟨g, cap, cur, rfl, _, _, hnc, _⟩
   ·simp [Builtin.append_, run_underlying ht, sizeOf, typeInfo, hi, Builtin.lenOf, Builtin.firstCells]
   ·simp [Builtin.append_, run_underlying ht, sizeOf, typeInfo, hi, Builtin.lenOf, Builtin.firstCells, storeCells]
  unfold Oper.wp execOp
  simp only [ho, resolve, invoke, builtin, Sem.run_bind, Sem.run_pure, Result.andThen_ok, List.map_toArray, List.map_cons, List.map_nil, hs, hx, hrun]
  exact hK _ _ (h v w hown (grown_below (Below.refl _ _) _))
 ·refine wpList_append_own w hgd s x t ho base e i z size bytes ht hi hz hsize hby hzs hsz v 0 [] hs hown ad m c news hx hl ?_ h1 (by omega) (by rw [Nat.zero_add]; exact hbytes) hbase (fun v' w' h2 h3 _ => h v' w' (by simpa using h2) h3)
  intro j u hu
  rcases hr with h0 | ⟨g, e2, _, hc⟩
  ·subst h0
   rw [List.eq_nil_of_length_eq_zero (show news.length = 0 by simpa using hl)] at hu
   simp at hu
  ·cases e2
   rw [show (⟨g, 0, none⟩ : Addr).add j = ⟨g, j, none⟩ from by unfold Addr.add; split <;> simp_all]
   exact hc j u hu
set_option maxRecDepth 8000 in
set_option maxHeartbeats 2000000 in
theorem clone_words (p : Option Addr) (c : Nat) (l : List Int) (w : World) (hl : l.length ≤ 1000000000000) (ho : SrcAt w p l.length (l.map (Value.int .u16))) :
  Calls Try.prog 48 #[.slice p l.length c] w fun e w' => ∃ v, e = .returned v ∧ w'.ownsRow w.heap.size 22 1 v l.length (l.map (Value.int .u16)) ∧ Below w.heap.size w w' := by
 obtain ⟨i9, hi9, hz9, hs9, hb9⟩ : ∃ i, Try.prog.info? 22 = some i ∧ i.zero = some (.int .u16 0) ∧ i.size = 1 ∧ i.bytes = 2 := by
  have := info22
  cases h : Try.prog.info? 22 with
  | none => rw [h] at this; cases this
  | some y => rw [h] at this; simp at this; exact ⟨y, rfl, this⟩
 rcases p with _ | ad
 ·have hnil : l = [] := by
   rcases ho with h | ⟨g, e, _⟩
   ·exact List.eq_nil_of_length_eq_zero h
   ·cases e
  subst hnil
  clear ho
  change Calls Try.prog 48 #[.slice none 0 c] w _
  have hk := fun (w : World) => Lib.run_eql_slice_nil (P := Try.prog) w 40 22 none 0 c 0 0 Try.underlying40
  go_enter Try.func48, Try.ntmps48
  go_wp2
  go_ret
  exact ⟨_, rfl, World.ownsRow_nil _ _ _ _, Below.refl _ _⟩
 ·have HS := Lib.hid ho
  clear ho
  have hk := fun (w : World) => Lib.run_eql_slice_nil (P := Try.prog) w 40 22 (some ad) l.length c 0 0 Try.underlying40
  have HE := Lib.hid (row_empty w 22 w.heap.size 1 (Nat.le_refl _))
  have HLN : Hid ((l.map (Value.int .u16)).length = l.length * 1) := Lib.hid (by simp)
  have HON : Hid (∀ u ∈ (l.map (Value.int .u16)), u.oneCell' = true) := Lib.hid (by
   intro u hu
   obtain ⟨x, _, rfl⟩ := List.mem_map.1 hu; rfl)
  go_enter Try.func48, Try.ntmps48
  go_wp2_with (at_builtin; refine append_src _ rfl (.tmp 5) (.tmp 6) 40 rfl w.heap.size 22 i9 (.int .u16 0) 1 2 Try.underlying40 hi9 hz9 hs9 hb9 rfl (by decide) _ rfl HE.out (some ad) l.length c (l.map (Value.int .u16)) rfl HLN.out (HS.out.kept (below1 w _)) HON.out (by unfold maxLen; omega) (by omega) (by simp) ?_)
  intro v1 w1 hown1 hg1
  have HO := Lib.hid hown1
  have HB := Lib.hid (((below1 w (Obj.cells #[] 22))).grown hg1 (by simp) (fun k e => by simp [Value.ownBlock] at e; omega))
  clear hown1 hg1
  go_wp2
  go_ret
  exact ⟨v1, rfl, HO.out, HB.out⟩
set_option maxRecDepth 8000 in
set_option maxHeartbeats 2000000 in
theorem clone_events (p : Option Addr) (c : Nat) (l : List (Int × Int)) (w : World) (hl : l.length ≤ 1000000000000) (ho : SrcAt w p l.length (outC l)) :
  Calls Try.prog 47 #[.slice p l.length c] w fun e w' => ∃ v, e = .returned v ∧ w'.ownsRow w.heap.size 54 2 v l.length (outC l) ∧ Below w.heap.size w w' := by
 obtain ⟨i9, hi9, hz9, hs9, hb9⟩ : ∃ i, Try.prog.info? 54 = some i ∧ i.zero = some (.agg #[.int .u16 0, .int .u16 0]) ∧ i.size = 2 ∧ i.bytes = 4 := by
  have := info54
  cases h : Try.prog.info? 54 with
  | none => rw [h] at this; cases this
  | some y => rw [h] at this; simp at this; exact ⟨y, rfl, this⟩
 rcases p with _ | ad
 ·have hnil : l = [] := by
   rcases ho with h | ⟨g, e, _⟩
   ·exact List.eq_nil_of_length_eq_zero h
   ·cases e
  subst hnil
  clear ho
  change Calls Try.prog 47 #[.slice none 0 c] w _
  have hk := fun (w : World) => Lib.run_eql_slice_nil (P := Try.prog) w 41 54 none 0 c 0 0 Try.underlying41
  go_enter Try.func47, Try.ntmps47
  go_wp2
  go_ret
  exact ⟨_, rfl, World.ownsRow_nil _ _ _ _, Below.refl _ _⟩
 ·have HS := Lib.hid ho
  clear ho
  have hk := fun (w : World) => Lib.run_eql_slice_nil (P := Try.prog) w 41 54 (some ad) l.length c 0 0 Try.underlying41
  have HE := Lib.hid (row_empty w 54 w.heap.size 2 (Nat.le_refl _))
  have HLN : Hid ((outC l).length = l.length * 2) := Lib.hid (by exact outC_length l)
  have HON : Hid (∀ u ∈ (outC l), u.oneCell' = true) := Lib.hid (by
   intro u hu
   obtain ⟨x, _, hx⟩ := List.mem_flatMap.1 hu; simp at hx; rcases hx with rfl | rfl <;> rfl)
  go_enter Try.func47, Try.ntmps47
  go_wp2_with (at_builtin; refine append_src _ rfl (.tmp 5) (.tmp 6) 41 rfl w.heap.size 54 i9 (.agg #[.int .u16 0, .int .u16 0]) 2 4 Try.underlying41 hi9 hz9 hs9 hb9 rfl (by decide) _ rfl HE.out (some ad) l.length c (outC l) rfl HLN.out (HS.out.kept (below1 w _)) HON.out (by unfold maxLen; omega) (by omega) (by simp) ?_)
  intro v1 w1 hown1 hg1
  have HO := Lib.hid hown1
  have HB := Lib.hid (((below1 w (Obj.cells #[] 54))).grown hg1 (by simp) (fun k e => by simp [Value.ownBlock] at e; omega))
  clear hown1 hg1
  go_wp2
  go_ret
  exact ⟨v1, rfl, HO.out, HB.out⟩
end Go.Proofs.Ytieaicdihingkaa
