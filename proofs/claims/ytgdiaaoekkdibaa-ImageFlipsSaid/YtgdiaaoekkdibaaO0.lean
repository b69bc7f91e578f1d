/- A whole list appended to an empty one, nil or not; where a list's cells lie. -/
import Derived.Test.YtgdiaaoekkdibaaA1
import Derived.Deep.RegionHeld3
import Derived.StillTailTactics
namespace Go.Proofs.Ytgdiaaoekkdibaa
set_option linter.unusedVariables false
set_option linter.unusedSimpArgs false
open Go.RowKit
/-- Where a list's cells lie, or that there are none. -/
def SrcAt (w : World) (p : Option Addr) (n : Nat) (xs : List Value) : Prop := n = 0 ∨ ∃ g, p = some ⟨g, 0, none⟩ ∧ g < w.heap.size ∧ ∀ j u, xs[j]? = some u → w.cell? ⟨g, j, none⟩ = some u
theorem SrcAt.kept {w w' : World} {p : Option Addr} {n : Nat} {xs : List Value} (h : SrcAt w p n xs) (hb : Below w.heap.size w w') : SrcAt w' p n xs := by
  rcases h with h | ⟨g, e, hg, hc⟩
  · exact .inl h
  · exact .inr ⟨g, e, Nat.lt_of_lt_of_le hg hb.size, fun j u hu => (hb.cell hg).trans (hc j u hu)⟩
theorem strs_src {w : World} {p : Option Addr} {l : List ByteArray} (h : StrsAt w p l) : SrcAt w p l.length (l.map Value.string) := by
  by_cases h0 : l.length = 0
  · exact .inl h0
  obtain ⟨s, hs⟩ := at_some l 0 (by omega)
  obtain ⟨B, e, hB, _⟩ := h 0 s hs
  refine .inr ⟨B, e, hB, fun j u hu => ?_⟩
  rw [List.getElem?_map] at hu
  cases hx : l[j]? with
  | none => rw [hx] at hu; simp at hu
  | some s2 =>
    rw [hx] at hu
    obtain ⟨B2, e2, _, hc, _⟩ := h j s2 hx
    rw [e] at e2
    simp at e2 hu
    subst e2; subst hu
    exact hc
theorem flat_at {α : Type} (f : α → List Value) (c : Nat) (l : List α) (hc : ∀ x, (f x).length = c) (h0 : 0 < c) (j : Nat) (u : Value) (h : (l.flatMap f)[j]? = some u) : ∃ x, l[j / c]? = some x ∧ (f x)[j % c]? = some u := by
  have hj := (List.getElem?_eq_some_iff.1 h).1
  have hlen : (l.flatMap f).length = c * l.length := by
    clear h hj
    induction l with
    | nil => simp
    | cons x l ih => rw [List.flatMap_cons, List.length_append, ih, hc, List.length_cons, Nat.mul_succ]; omega
  rw [hlen] at hj
  have hk : j / c < l.length := Nat.div_lt_of_lt_mul hj
  obtain ⟨x, hx⟩ := at_some l (j / c) hk
  have hm : j % c < c := Nat.mod_lt _ h0
  have e : j / c * c + j % c = j := by rw [Nat.mul_comm]; exact Nat.div_add_mod j c
  have g := flat_get f c l hc (j / c) (j % c) x hx hm
  rw [e] at g
  exact ⟨x, hx, g ▸ h⟩
theorem objs_src {w : World} {p : Option Addr} {l : List ObjI} (h : ObjsAt w p l) : SrcAt w p l.length (l.flatMap ObjI.cells) := by
  by_cases h0 : l.length = 0
  · exact .inl h0
  obtain ⟨s, hs⟩ := at_some l 0 (by omega)
  obtain ⟨B, e, hB, _⟩ := h 0 s hs
  refine .inr ⟨B, e, hB, fun j u hu => ?_⟩
  obtain ⟨o, ho, hr⟩ := flat_at ObjI.cells 3 l (fun _ => rfl) (by decide) j u hu
  obtain ⟨B2, e2, _, d0, d1, d2, _⟩ := h (j / 3) o ho
  rw [e] at e2
  simp at e2
  subst e2
  have ej : j = j / 3 * 3 + j % 3 := by omega
  rcases (show j % 3 = 0 ∨ j % 3 = 1 ∨ j % 3 = 2 by omega) with hm | hm | hm
  · rw [hm] at hr; simp [ObjI.cells] at hr; subst hr
    have e3 : j = j / 3 * 3 := by omega
    rw [e3]; exact d0
  · rw [hm] at hr; simp [ObjI.cells] at hr; subst hr
    have e3 : j = j / 3 * 3 + 1 := by omega
    rw [e3, show (j / 3 * 3 + 1) / 3 = j / 3 from by omega] at *
    exact d1
  · rw [hm] at hr; simp [ObjI.cells] at hr; subst hr
    have e3 : j = j / 3 * 3 + 2 := by omega
    rw [e3, show (j / 3 * 3 + 2) / 3 = j / 3 from by omega] at *
    exact d2
theorem rels_src {w : World} {p : Option Addr} {l : List RelI} (h : RelsAt w p l) : SrcAt w p l.length (l.flatMap RelI.cells) := by
  by_cases h0 : l.length = 0
  · exact .inl h0
  obtain ⟨s, hs⟩ := at_some l 0 (by omega)
  obtain ⟨B, e, hB, _⟩ := h 0 s hs
  refine .inr ⟨B, e, hB, fun j u hu => ?_⟩
  obtain ⟨o, ho, hr⟩ := flat_at RelI.cells 2 l (fun _ => rfl) (by decide) j u hu
  obtain ⟨B2, e2, _, d0, d1, _⟩ := h (j / 2) o ho
  rw [e] at e2
  simp at e2
  subst e2
  rcases (show j % 2 = 0 ∨ j % 2 = 1 by omega) with hm | hm
  · rw [hm] at hr; simp [RelI.cells] at hr; subst hr
    have e3 : j = j / 2 * 2 := by omega
    rw [e3]; exact d0
  · rw [hm] at hr; simp [RelI.cells] at hr; subst hr
    have e3 : j = j / 2 * 2 + 1 := by omega
    rw [e3, show (j / 2 * 2 + 1) / 2 = j / 2 from by omega] at *
    exact d1
theorem row_empty (w : World) (t base size : Nat) (h : base ≤ w.heap.size) : (w.alloc (.cells #[] t)).ownsRow base t size (.slice (some ⟨w.heap.size, 0, none⟩) 0 0) 0 [] :=
  ⟨by simp, .inr ⟨w.heap.size, 0, #[], rfl, h, alloc_at w _, Nat.le_refl _, Nat.zero_le _, by simp, by simp⟩⟩
/-- An append of a whole list, nil or not. -/
theorem append_src {P : Program} (w : World) {ops : Array Oper} {rest : List Oper} {o : Oper} {a : Act} {Q : Exit → Act → World → Prop} (hgd : o.guard = none) (s x : Operand) (t : TypeId)
    (ho : o.op = .call { callee := .builtin .append, args := #[s, x], argTypes := #[t, t] })
    (base : Nat) (e : TypeId) (i : TypeInfo) (z : Value) (size bytes : Nat) (ht : P.underlying t = some (.slice e)) (hi : P.info? e = some i) (hz : i.zero = some z)
    (hsize : i.size = size) (hby : i.bytes = bytes) (hzs : z.cells.size = size) (hsz : 0 < size)
    (v : Value) (hs : a.eval s = v) (hown : w.ownsRow base e size v 0 [])
    (p : Option Addr) (m c : Nat) (news : List Value) (hx : a.eval x = .slice p m c) (hl : news.length = m * size) (hr : SrcAt w p m news) (h1 : ∀ u ∈ news, u.oneCell' = true)
    (h63 : m ≤ maxLen) (hbytes : m * bytes ≤ 140737488355328) (hbase : base ≤ w.heap.size)
    (h : ∀ v' w', w'.ownsRow base e size v' m news → w.grownBy w' v.ownBlock → wpList P ops Q rest (a.put o.dst v') w') : wpList P ops Q (o :: rest) a w := by
  rcases p with _ | ad
  · have hm : m = 0 := by
      rcases hr with h0 | ⟨g, e2, _⟩
      · exact h0
      · cases e2
    subst hm
    obtain rfl : news = [] := List.eq_nil_of_length_eq_zero (by simpa using hl)
    refine wpList_plain hgd fun K hK => ?_
    have hrun : (Builtin.append_ #[t, t] o.type #[v, .slice none 0 c]).run P w = .ok v w := by
      rcases hown.2 with ⟨rfl, _⟩ | ⟨g, cap, cur, rfl, _, _, hnc, _⟩
      · simp [Builtin.append_, run_underlying ht, sizeOf, typeInfo, hi, Builtin.lenOf, Builtin.firstCells]
      · simp [Builtin.append_, run_underlying ht, sizeOf, typeInfo, hi, Builtin.lenOf, Builtin.firstCells, storeCells]
    unfold Oper.wp execOp
    simp only [ho, resolve, invoke, builtin, Sem.run_bind, Sem.run_pure, Result.andThen_ok, List.map_toArray, List.map_cons, List.map_nil, hs, hx, hrun]
    exact hK _ _ (h v w hown (grown_below (Below.refl _ _) _))
  · refine wpList_append_own w hgd s x t ho base e i z size bytes ht hi hz hsize hby hzs hsz v 0 [] hs hown ad m c news hx hl ?_ h1 (by omega) (by rw [Nat.zero_add]; exact hbytes) hbase (fun v' w' h2 h3 _ => h v' w' (by simpa using h2) h3)
    intro j u hu
    rcases hr with h0 | ⟨g, e2, _, hc⟩
    · subst h0
      rw [List.eq_nil_of_length_eq_zero (show news.length = 0 by simpa using hl)] at hu
      simp at hu
    · cases e2
      rw [show (⟨g, 0, none⟩ : Addr).add j = ⟨g, j, none⟩ from by unfold Addr.add; split <;> simp_all]
      exact hc j u hu
theorem flat_clen {α : Type} (f : α → List Value) (c : Nat) (l : List α) (hc : ∀ x, (f x).length = c) : (l.flatMap f).length = c * l.length := by
  induction l with
  | nil => simp
  | cons x l ih => rw [List.flatMap_cons, List.length_append, ih, hc, List.length_cons, Nat.mul_succ]; omega
theorem flat_one {α : Type} (f : α → List Value) (l : List α) (h : ∀ x, ∀ u ∈ f x, u.oneCell' = true) : ∀ u ∈ l.flatMap f, u.oneCell' = true := by
  intro u hu
  obtain ⟨x, _, hx⟩ := List.mem_flatMap.1 hu
  exact h x u hx
end Go.Proofs.Ytgdiaaoekkdibaa
namespace Go.Proofs.Ytgdiaaoekkdibaa
set_option linter.unusedVariables false
set_option linter.unusedSimpArgs false
open Go.RowKit
/-- Two blocks of a call's own, five cells each: the first one's values, the second one's cells. -/
structure OwnMem (w w' : World) (vs : List Value) : Prop where
  n : ∀ k u, vs[k]? = some u → w'.cell? ⟨w.heap.size, k, none⟩ = some u
  fn : ∀ k, w'.frozen? ⟨w.heap.size, k, none⟩ = false
  t : ∀ k, k < 5 → ∃ v, w'.cell? ⟨w.heap.size + 1, k, none⟩ = some v
  ft : ∀ k, w'.frozen? ⟨w.heap.size + 1, k, none⟩ = false
  size : w.heap.size + 2 ≤ w'.heap.size
  below : Below w.heap.size w w'
theorem OwnMem.far {w w' w1 : World} {vs : List Value} (h : OwnMem w w' vs) (hb : Below (w.heap.size + 2) w' w1) : OwnMem w w1 vs := by
  have h0 : w.heap.size < w.heap.size + 2 := by omega
  have h1 : w.heap.size + 1 < w.heap.size + 2 := by omega
  refine ⟨fun k u hk => (hb.cell h0).trans (h.n k u hk), fun k => (hb.frozen h0).trans (h.fn k), fun k hk => ?_, fun k => (hb.frozen h1).trans (h.ft k), ?_, h.below.trans (hb.mono (by omega))⟩
  · obtain ⟨v, hv⟩ := h.t k hk
    exact ⟨v, (hb.cell h1).trans hv⟩
  · have := h.size; have := hb.size; omega
theorem OwnMem.next {w w' w1 : World} {vs : List Value} (h : OwnMem w w' vs) (hb : Below w'.heap.size w' w1) : OwnMem w w1 vs := h.far (hb.mono h.size)
theorem OwnMem.set {w w' : World} {vs : List Value} (h : OwnMem w w' vs) (k : Nat) (u : Value) : OwnMem w (w'.setCell ⟨w.heap.size, k, none⟩ u) (vs.set k u) := by
  have hne : ∀ i, (⟨w.heap.size, k, none⟩ : Addr) ≠ ⟨w.heap.size + 1, i, none⟩ := fun i e => by injection e with e1; omega
  refine ⟨fun j x hj => ?_, fun j => (frozen_set' _ _ _ _).trans (h.fn j), fun j hj => ?_, fun j => (frozen_set' _ _ _ _).trans (h.ft j), by simp; exact h.size, h.below.setCell (Nat.le_refl _) _⟩
  · by_cases e : k = j
    · subst e
      have hlt : k < vs.length := by have := (List.getElem?_eq_some_iff.1 hj).1; simpa using this
      obtain ⟨y, hy⟩ := at_some vs k hlt
      rw [List.getElem?_set_self hlt] at hj
      cases hj
      exact World.cell?_setCell_same _ _ _ (h.n k y hy)
    · rw [List.getElem?_set_ne e] at hj
      exact (World.cell?_setCell_other _ _ _ _ (addr_ne _ k j e)).trans (h.n j x hj)
  · obtain ⟨v, hv⟩ := h.t j hj
    exact ⟨v, (World.cell?_setCell_other _ _ _ _ (hne j)).trans hv⟩
theorem ownMem_start (w : World) (v0 v1 v2 v3 v4 : Value) : OwnMem w ((w.alloc (Obj.cells #[v0, v1, v2, v3, v4] 30)).alloc (Obj.cells #[Value.slice none 0 0, Value.int IntKind.u16 0, Value.int IntKind.u16 0, Value.slice none 0 0, Value.slice none 0 0] 30)) [v0, v1, v2, v3, v4] := by
  refine ⟨fun k u hk => ?_, fun k => by simp [go_sem], fun k hk => ?_, fun k => by simp [go_sem], by simp, below_alloc (below1 _ _) _⟩
  · have e : ((w.alloc (Obj.cells #[v0, v1, v2, v3, v4] 30)).alloc (Obj.cells #[Value.slice none 0 0, Value.int IntKind.u16 0, Value.int IntKind.u16 0, Value.slice none 0 0, Value.slice none 0 0] 30)).cell? ⟨w.heap.size, k, none⟩ = (w.alloc (Obj.cells #[v0, v1, v2, v3, v4] 30)).cell? ⟨w.heap.size, k, none⟩ := World.cell?_alloc_lt _ _ _ (by simp)
    rw [e, Lib.cell_of_heap (alloc_at w _), ← hk]
    simp
  · have hs : (w.alloc (Obj.cells #[v0, v1, v2, v3, v4] 30)).heap.size = w.heap.size + 1 := by simp
    have e := Lib.cell_of_heap (alloc_at (w.alloc (Obj.cells #[v0, v1, v2, v3, v4] 30)) (Obj.cells #[Value.slice none 0 0, Value.int IntKind.u16 0, Value.int IntKind.u16 0, Value.slice none 0 0, Value.slice none 0 0] 30)) k
    rw [hs] at e
    rw [e]
    rcases (show k = 0 ∨ k = 1 ∨ k = 2 ∨ k = 3 ∨ k = 4 by omega) with rfl | rfl | rfl | rfl | rfl <;> exact ⟨_, rfl⟩
/-- A copy's rows, in blocks from B on. -/
structure Owned (B : Nat) (w : World) (I : Img) (v1 v2 v3 : Value) : Prop where
  o1 : w.ownsRow B 9 1 v1 I.banks.length (I.banks.map Value.string)
  o2 : w.ownsRow B 39 3 v2 I.data.length (I.data.flatMap ObjI.cells)
  o3 : w.ownsRow B 41 2 v3 I.relocs.length (I.relocs.flatMap RelI.cells)
def OwnPost (I : Img) (w : World) (e : Ending) (w' : World) : Prop :=
  ∃ v1 v2 v3 : Value, e = .returned (.agg #[v1, .int .u16 I.entry, .int .u16 I.vector, v2, v3]) ∧ Owned (w.heap.size + 2) w' I v1 v2 v3 ∧ Below w.heap.size w w'
set_option maxRecDepth 8000 in
set_option maxHeartbeats 4000000 in
theorem own_any (p1 : Option Addr) (c1 : Nat) (p2 : Option Addr) (c2 : Nat) (p3 : Option Addr) (c3 : Nat) (I : Img) (w : World) (hI : ImgAt w p1 p2 p3 I) (b1 : I.banks.length ≤ 1000000) (b2 : I.data.length ≤ 1000000) (b3 : I.relocs.length ≤ 1000000) (Rr : Ending → World → Prop) (HR : Hid (∀ e w', OwnPost I w e w' → Rr e w')) :
    Calls Try.prog 38 #[imgV p1 c1 p2 c2 p3 c3 I] w Rr := by
  obtain ⟨i9, hi9, hz9, hs9, hb9⟩ := info_parts infoStr
  obtain ⟨i39, hi39, hz39, hs39, hb39⟩ := info_parts infoObj
  obtain ⟨i41, hi41, hz41, hs41, hb41⟩ := info_parts infoRel
  have hW0 := below_alloc (below1 w (Obj.cells #[.slice p1 I.banks.length c1, .int .u16 I.entry, .int .u16 I.vector, .slice p2 I.data.length c2, .slice p3 I.relocs.length c3] 30)) (Obj.cells #[Value.slice none 0 0, Value.int IntKind.u16 0, Value.int IntKind.u16 0, Value.slice none 0 0, Value.slice none 0 0] 30)
  have S1 := Lib.hid (strs_src hI.banks)
  have S2 := Lib.hid (objs_src hI.data)
  have S3 := Lib.hid (rels_src hI.relocs)
  have M0 := ownMem_start w (.slice p1 I.banks.length c1) (.int .u16 I.entry) (.int .u16 I.vector) (.slice p2 I.data.length c2) (.slice p3 I.relocs.length c3)
  have HM0 := Lib.hid M0
  clear hI hW0 M0
  show Calls Try.prog 38 #[.agg #[.slice p1 I.banks.length c1, .int .u16 I.entry, .int .u16 I.vector, .slice p2 I.data.length c2, .slice p3 I.relocs.length c3]] w _
  go_enter Try.func38, Try.ntmps38
  have HE := Lib.hid (row_empty ((w.alloc (Obj.cells #[.slice p1 I.banks.length c1, .int .u16 I.entry, .int .u16 I.vector, .slice p2 I.data.length c2, .slice p3 I.relocs.length c3] 30)).alloc (Obj.cells #[Value.slice none 0 0, Value.int IntKind.u16 0, Value.int IntKind.u16 0, Value.slice none 0 0, Value.slice none 0 0] 30)) 9 (w.heap.size + 2) 1 HM0.out.size)
  have hsz : ((w.alloc (Obj.cells #[.slice p1 I.banks.length c1, .int .u16 I.entry, .int .u16 I.vector, .slice p2 I.data.length c2, .slice p3 I.relocs.length c3] 30)).alloc (Obj.cells #[Value.slice none 0 0, Value.int IntKind.u16 0, Value.int IntKind.u16 0, Value.slice none 0 0, Value.slice none 0 0] 30)).heap.size = w.heap.size + 1 + 1 := by simp
  rw [hsz] at HE
  clear hsz
  have HM1 := Lib.hid (HM0.out.next (below1 _ (Obj.cells #[] 9)))
  go_wp2_with (at_builtin; refine append_src _ rfl (.tmp 3) (.tmp 5) 25 rfl (w.heap.size + 2) 9 i9 (.string ByteArray.empty) 1 16 Try.underlying25 hi9 hz9 hs9 hb9 rfl (by decide) _ rfl HE.out p1 I.banks.length c1 (I.banks.map Value.string) rfl (by simp) (S1.out.kept HM1.out.below) (by intro u hu; obtain ⟨s, _, rfl⟩ := List.mem_map.1 hu; rfl) (by unfold maxLen; omega) (by omega) HM1.out.size ?_)
  intro v1 w1 hown1 hg1
  obtain ⟨q1, e1, rfl, _⟩ := own_slice hown1
  have hA := HM1.out.far ((Below.refl (w.heap.size + 2) _).grown hg1 HM1.out.size (fun k e => by simp [Value.ownBlock] at e; omega))
  have KA := Lib.hid hA
  have KO1 := Lib.hid hown1
  have n0 := hA.n 0 _ rfl
  have n1 := hA.n 1 _ rfl
  have n2 := hA.n 2 _ rfl
  have n3 := hA.n 3 _ rfl
  have n4 := hA.n 4 _ rfl
  have f0 := hA.fn 0
  have KB := Lib.hid (hA.set 0 (.slice q1 I.banks.length e1))
  have KC := Lib.hid (KB.out.next (below1 _ (Obj.cells #[] 39)))
  have HE2 := Lib.hid (row_empty (w1.setCell ⟨w.heap.size, 0, none⟩ (.slice q1 I.banks.length e1)) 39 (w.heap.size + 2) 3 KB.out.size)
  have hsz : (w1.setCell ⟨w.heap.size, 0, none⟩ (.slice q1 I.banks.length e1)).heap.size = w1.heap.size := by simp
  rw [hsz] at HE2
  have hlw : w.heap.size + 2 ≤ w1.heap.size := hA.size
  have KO1b := Lib.hid (own_next (own_set (j := 0) (u := .slice q1 I.banks.length e1) KO1.out (by omega : w.heap.size < w.heap.size + 2)) (below1 _ (Obj.cells #[] 39)))
  have m3 := KC.out.n 3 _ rfl
  clear hsz hown1 hg1 hA HM0 HM1 HE KO1 KA
  go_wp2_with (at_builtin; refine append_src _ rfl (.tmp 8) (.tmp 10) 27 rfl (w.heap.size + 2) 39 i39 (.agg #[.int .i64 0, .int .u16 0, .int .u16 0]) 3 16 Try.underlying27 hi39 hz39 hs39 hb39 rfl (by decide) _ rfl HE2.out p2 I.data.length c2 (I.data.flatMap ObjI.cells) rfl (by rw [flat_clen ObjI.cells 3 _ (fun _ => rfl)]; omega) (S2.out.kept KC.out.below) (flat_one ObjI.cells I.data (fun o => one_obj o)) (by unfold maxLen; omega) (by omega) KC.out.size ?_)
  intro v2 w2 hown2 hg2
  obtain ⟨q2, e2, rfl, _⟩ := own_slice hown2
  have hA := KC.out.far ((Below.refl (w.heap.size + 2) _).grown hg2 KC.out.size (fun k e => by simp [Value.ownBlock] at e; omega))
  have KO1c := Lib.hid (KO1b.out.kept hg2 (own_apart KO1b.out HE2.out (by decide)))
  have KO2 := Lib.hid hown2
  clear n0 n1 n2 n3 n4 f0
  have n0 := hA.n 0 _ rfl
  have n1 := hA.n 1 _ rfl
  have n2 := hA.n 2 _ rfl
  have n3 := hA.n 3 _ rfl
  have n4 := hA.n 4 _ rfl
  have f3 := hA.fn 3
  have KB := Lib.hid (hA.set 3 (.slice q2 I.data.length e2))
  have KD := Lib.hid (KB.out.next (below1 _ (Obj.cells #[] 41)))
  have HE3 := Lib.hid (row_empty (w2.setCell ⟨w.heap.size, 3, none⟩ (.slice q2 I.data.length e2)) 41 (w.heap.size + 2) 2 KB.out.size)
  have hsz : (w2.setCell ⟨w.heap.size, 3, none⟩ (.slice q2 I.data.length e2)).heap.size = w2.heap.size := by simp
  rw [hsz] at HE3
  have hlw2 : w.heap.size + 2 ≤ w2.heap.size := hA.size
  have KO1d := Lib.hid (own_next (own_set (j := 3) (u := .slice q2 I.data.length e2) KO1c.out (by omega : w.heap.size < w.heap.size + 2)) (below1 _ (Obj.cells #[] 41)))
  have KO2d := Lib.hid (own_next (own_set (j := 3) (u := .slice q2 I.data.length e2) KO2.out (by omega : w.heap.size < w.heap.size + 2)) (below1 _ (Obj.cells #[] 41)))
  have m4 := KD.out.n 4 _ rfl
  clear hsz hown2 hg2 hA HE2 KC KO1b KO1c KO2 m3
  go_wp2_with (at_builtin; refine append_src _ rfl (.tmp 13) (.tmp 15) 28 rfl (w.heap.size + 2) 41 i41 (.agg #[.int .i64 0, .int .u16 0]) 2 16 Try.underlying28 hi41 hz41 hs41 hb41 rfl (by decide) _ rfl HE3.out p3 I.relocs.length c3 (I.relocs.flatMap RelI.cells) rfl (by rw [flat_clen RelI.cells 2 _ (fun _ => rfl)]; omega) (S3.out.kept KD.out.below) (flat_one RelI.cells I.relocs (fun o => one_rel o)) (by unfold maxLen; omega) (by omega) KD.out.size ?_)
  intro v3 w3 hown3 hg3
  obtain ⟨q3, e3, rfl, _⟩ := own_slice hown3
  have hA := KD.out.far ((Below.refl (w.heap.size + 2) _).grown hg3 KD.out.size (fun k e => by simp [Value.ownBlock] at e; omega))
  have KO1e := Lib.hid (own_set (j := 4) (u := .slice q3 I.relocs.length e3) (KO1d.out.kept hg3 (own_apart KO1d.out HE3.out (by decide))) (by omega : w.heap.size < w.heap.size + 2))
  have KO2e := Lib.hid (own_set (j := 4) (u := .slice q3 I.relocs.length e3) (KO2d.out.kept hg3 (own_apart KO2d.out HE3.out (by decide))) (by omega : w.heap.size < w.heap.size + 2))
  have KO3e := Lib.hid (own_set (j := 4) (u := .slice q3 I.relocs.length e3) hown3 (by omega : w.heap.size < w.heap.size + 2))
  clear n0 n1 n2 n3 n4 f3 hown3 hg3 HE3 KD KO1d KO2d
  have n0 := hA.n 0 _ rfl
  have n1 := hA.n 1 _ rfl
  have n2 := hA.n 2 _ rfl
  have n3 := hA.n 3 _ rfl
  have n4 := hA.n 4 _ rfl
  have f4 := hA.fn 4
  have KB := Lib.hid (hA.set 4 (.slice q3 I.relocs.length e3))
  obtain ⟨u0, t0⟩ := KB.out.t 0 (by decide)
  obtain ⟨u1, t1⟩ := KB.out.t 1 (by decide)
  obtain ⟨u2, t2⟩ := KB.out.t 2 (by decide)
  obtain ⟨u3, t3⟩ := KB.out.t 3 (by decide)
  obtain ⟨u4, t4⟩ := KB.out.t 4 (by decide)
  have g0 := KB.out.ft 0
  have g1 := KB.out.ft 1
  have g2 := KB.out.ft 2
  have g3 := KB.out.ft 3
  have g4 := KB.out.ft 4
  have r0 := KB.out.n 0 _ rfl
  have r1 := KB.out.n 1 _ rfl
  have r2 := KB.out.n 2 _ rfl
  have r3 := KB.out.n 3 _ rfl
  have r4 := KB.out.n 4 _ rfl
  have s0 := hA.t 0 (by decide)
  clear hA s0
  have hlt : w.heap.size + 1 < w.heap.size + 2 := by omega
  have HS := Lib.hid (set5 (w3.setCell ⟨w.heap.size, 4, none⟩ (.slice q3 I.relocs.length e3)) (w.heap.size + 1) (.slice q1 I.banks.length e1) (.int .u16 I.entry) (.int .u16 I.vector) (.slice q2 I.data.length e2) (.slice q3 I.relocs.length e3) _ _ _ _ _ t0 t1 t2 t3 t4)
  have KF1 := Lib.hid (own_set (j := 4) (u := .slice q3 I.relocs.length e3) (own_set (j := 3) (u := .slice q2 I.data.length e2) (own_set (j := 2) (u := .int .u16 I.vector) (own_set (j := 1) (u := .int .u16 I.entry) (own_set (j := 0) (u := .slice q1 I.banks.length e1) KO1e.out hlt) hlt) hlt) hlt) hlt)
  have KF2 := Lib.hid (own_set (j := 4) (u := .slice q3 I.relocs.length e3) (own_set (j := 3) (u := .slice q2 I.data.length e2) (own_set (j := 2) (u := .int .u16 I.vector) (own_set (j := 1) (u := .int .u16 I.entry) (own_set (j := 0) (u := .slice q1 I.banks.length e1) KO2e.out hlt) hlt) hlt) hlt) hlt)
  have KF3 := Lib.hid (own_set (j := 4) (u := .slice q3 I.relocs.length e3) (own_set (j := 3) (u := .slice q2 I.data.length e2) (own_set (j := 2) (u := .int .u16 I.vector) (own_set (j := 1) (u := .int .u16 I.entry) (own_set (j := 0) (u := .slice q1 I.banks.length e1) KO3e.out hlt) hlt) hlt) hlt) hlt)
  have hN1 : w.heap.size ≤ w.heap.size + 1 := by omega
  have KBF := Lib.hid (((((KB.out.below.setCell (p := ⟨w.heap.size + 1, 0, none⟩) hN1 (.slice q1 I.banks.length e1)).setCell (p := ⟨w.heap.size + 1, 1, none⟩) hN1 (.int .u16 I.entry)).setCell (p := ⟨w.heap.size + 1, 2, none⟩) hN1 (.int .u16 I.vector)).setCell (p := ⟨w.heap.size + 1, 3, none⟩) hN1 (.slice q2 I.data.length e2)).setCell (p := ⟨w.heap.size + 1, 4, none⟩) hN1 (.slice q3 I.relocs.length e3))
  clear hlt KO1e KO2e KO3e KB hN1
  go_wp2_with fail
  obtain ⟨x0, x1, x2, x3, x4⟩ := HS.out
  clear n0 n1 n2 n3 n4 f4 t0 t1 t2 t3 t4 g0 g1 g2 g3 g4 r0 r1 r2 r3 r4 m4 HS S1 S2 S3
  generalize (((((w3.setCell ⟨w.heap.size, 4, none⟩ (.slice q3 I.relocs.length e3)).setCell ⟨w.heap.size + 1, 0, none⟩ (Value.slice q1 I.banks.length e1)).setCell ⟨w.heap.size + 1, 1, none⟩ (Value.int IntKind.u16 I.entry)).setCell ⟨w.heap.size + 1, 2, none⟩ (Value.int IntKind.u16 I.vector)).setCell ⟨w.heap.size + 1, 3, none⟩ (Value.slice q2 I.data.length e2)).setCell ⟨w.heap.size + 1, 4, none⟩ (Value.slice q3 I.relocs.length e3) = WF at *
  exact bodyPost_ret (v := .agg #[.slice q1 I.banks.length e1, .int .u16 I.entry, .int .u16 I.vector, .slice q2 I.data.length e2, .slice q3 I.relocs.length e3]) (by simp [results, Try.results38, go_sem, x0, x1, x2, x3, x4]) rfl (HR.out _ _ ⟨_, _, _, rfl, ⟨KF1.out, KF2.out, KF3.out⟩, KBF.out⟩)
theorem Owned.img {B : Nat} {w : World} {I : Img} {v1 v2 v3 : Value} (h : Owned B w I v1 v2 v3) (hs : ∀ s ∈ I.banks, s.size ≤ maxLen) (ho : ∀ o ∈ I.data, o.ok) (hr : ∀ r ∈ I.relocs, r.ok) (he : OkU16 I.entry) (hv : OkU16 I.vector)
    (l1 : I.banks.length ≤ maxLen) (l2 : I.data.length ≤ maxLen) (l3 : I.relocs.length ≤ maxLen) :
    ∃ (p1 : Option Addr) (c1 : Nat) (p2 : Option Addr) (c2 : Nat) (p3 : Option Addr) (c3 : Nat), v1 = .slice p1 I.banks.length c1 ∧ v2 = .slice p2 I.data.length c2 ∧ v3 = .slice p3 I.relocs.length c3 ∧ ImgAt w p1 p2 p3 I := by
  obtain ⟨p1, c1, e1, k1⟩ := own_slice h.o1
  obtain ⟨p2, c2, e2, k2⟩ := own_slice h.o2
  obtain ⟨p3, c3, e3, k3⟩ := own_slice h.o3
  refine ⟨p1, c1, p2, c2, p3, c3, e1, e2, e3, ?_, ?_, ?_, he, hv, l1, l2, l3⟩
  · intro k s hk
    rcases k1 with k1 | ⟨g, rfl, hg, _, hc⟩
    · rw [List.eq_nil_of_length_eq_zero k1] at hk; simp at hk
    · exact ⟨g, rfl, hg, hc k _ (by rw [List.getElem?_map, hk]; rfl), hs s (List.mem_of_getElem? hk)⟩
  · intro k o hk
    rcases k2 with k2 | ⟨g, rfl, hg, _, hc⟩
    · rw [List.eq_nil_of_length_eq_zero k2] at hk; simp at hk
    · exact ⟨g, rfl, hg, hc (k * 3) _ (flat_get ObjI.cells 3 I.data (fun _ => rfl) k 0 o hk (by decide)), hc (k * 3 + 1) _ (flat_get ObjI.cells 3 I.data (fun _ => rfl) k 1 o hk (by decide)), hc (k * 3 + 2) _ (flat_get ObjI.cells 3 I.data (fun _ => rfl) k 2 o hk (by decide)), ho o (List.mem_of_getElem? hk)⟩
  · intro k o hk
    rcases k3 with k3 | ⟨g, rfl, hg, _, hc⟩
    · rw [List.eq_nil_of_length_eq_zero k3] at hk; simp at hk
    · exact ⟨g, rfl, hg, hc (k * 2) _ (flat_get RelI.cells 2 I.relocs (fun _ => rfl) k 0 o hk (by decide)), hc (k * 2 + 1) _ (flat_get RelI.cells 2 I.relocs (fun _ => rfl) k 1 o hk (by decide)), hr o (List.mem_of_getElem? hk)⟩
/-- What an image in memory is made of. -/
theorem img_parts {w : World} {p1 p2 p3 : Option Addr} {I : Img} (h : ImgAt w p1 p2 p3 I) : (∀ s ∈ I.banks, s.size ≤ maxLen) ∧ (∀ o ∈ I.data, o.ok) ∧ (∀ r ∈ I.relocs, r.ok) := by
  refine ⟨fun s hs => ?_, fun o ho => ?_, fun r hr => ?_⟩
  · obtain ⟨k, hk⟩ := List.getElem?_of_mem hs
    obtain ⟨_, _, _, _, hz⟩ := h.banks k s hk
    exact hz
  · obtain ⟨k, hk⟩ := List.getElem?_of_mem ho
    obtain ⟨_, _, _, _, _, _, ok⟩ := h.data k o hk
    exact ok
  · obtain ⟨k, hk⟩ := List.getElem?_of_mem hr
    obtain ⟨_, _, _, _, _, ok⟩ := h.relocs k r hk
    exact ok
end Go.Proofs.Ytgdiaaoekkdibaa
namespace Go.Proofs.Ytgdiaaoekkdibaa
set_option linter.unusedVariables false
set_option linter.unusedSimpArgs false
open Go.RowKit
theorem own_mono {w : World} {base base' e size n : Nat} {v : Value} {xs : List Value} (h : w.ownsRow base e size v n xs) (hb : base' ≤ base) : w.ownsRow base' e size v n xs := by
  refine ⟨h.1, ?_⟩
  rcases h.2 with h | ⟨g, cap, cur, hv, hg, r⟩
  · exact .inl h
  · exact .inr ⟨g, cap, cur, hv, Nat.le_trans hb hg, r⟩
structure TMem (w w' : World) (I : Img) (v1 v2 v3 : Value) (a b c : Int) : Prop where
  i0 : w'.cell? ⟨w.heap.size, 0, none⟩ = some v1
  i1 : w'.cell? ⟨w.heap.size, 1, none⟩ = some (.int .u16 I.entry)
  i2 : w'.cell? ⟨w.heap.size, 2, none⟩ = some (.int .u16 I.vector)
  i3 : w'.cell? ⟨w.heap.size, 3, none⟩ = some v2
  i4 : w'.cell? ⟨w.heap.size, 4, none⟩ = some v3
  fi : ∀ k, w'.frozen? ⟨w.heap.size, k, none⟩ = false
  q0 : w'.cell? ⟨w.heap.size + 1, 0, none⟩ = some (.int .i64 a)
  q1 : w'.cell? ⟨w.heap.size + 1, 1, none⟩ = some (.int .i64 b)
  q2 : w'.cell? ⟨w.heap.size + 1, 2, none⟩ = some (.int .i64 c)
  t : ∀ k, k < 5 → ∃ v, w'.cell? ⟨w.heap.size + 2, k, none⟩ = some v
  ft : ∀ k, w'.frozen? ⟨w.heap.size + 2, k, none⟩ = false
  o1 : w'.ownsRow (w.heap.size + 3) 9 1 v1 I.banks.length (I.banks.map Value.string)
  o2 : w'.ownsRow (w.heap.size + 3) 39 3 v2 I.data.length (I.data.flatMap ObjI.cells)
  o3 : w'.ownsRow (w.heap.size + 3) 41 2 v3 I.relocs.length (I.relocs.flatMap RelI.cells)
  hs : ∀ s ∈ I.banks, s.size ≤ 4096
  ho : ∀ o ∈ I.data, o.ok
  hr : ∀ r ∈ I.relocs, r.ok
  he : OkU16 I.entry
  hv : OkU16 I.vector
  size : w.heap.size + 3 ≤ w'.heap.size
  below : Below w.heap.size w w'
/-- A world in which only blocks from the rows on may differ. -/
theorem TMem.far {w w' w1 : World} {I I' : Img} {v1 v2 v3 : Value} {a b c : Int} (h : TMem w w' I v1 v2 v3 a b c) (hb : Below (w.heap.size + 3) w' w1)
    (o1 : w1.ownsRow (w.heap.size + 3) 9 1 v1 I'.banks.length (I'.banks.map Value.string)) (o2 : w1.ownsRow (w.heap.size + 3) 39 3 v2 I'.data.length (I'.data.flatMap ObjI.cells)) (o3 : w1.ownsRow (w.heap.size + 3) 41 2 v3 I'.relocs.length (I'.relocs.flatMap RelI.cells))
    (hs : ∀ s ∈ I'.banks, s.size ≤ 4096) (ho : ∀ o ∈ I'.data, o.ok) (hr : ∀ r ∈ I'.relocs, r.ok) (ee : I'.entry = I.entry) (ev : I'.vector = I.vector) : TMem w w1 I' v1 v2 v3 a b c := by
  have g0 : w.heap.size < w.heap.size + 3 := by omega
  have g1 : w.heap.size + 1 < w.heap.size + 3 := by omega
  have g2 : w.heap.size + 2 < w.heap.size + 3 := by omega
  refine ⟨(hb.cell g0).trans h.i0, by rw [ee]; exact (hb.cell g0).trans h.i1, by rw [ev]; exact (hb.cell g0).trans h.i2, (hb.cell g0).trans h.i3, (hb.cell g0).trans h.i4, fun k => (hb.frozen g0).trans (h.fi k),
    (hb.cell g1).trans h.q0, (hb.cell g1).trans h.q1, (hb.cell g1).trans h.q2, fun k hk => ?_, fun k => (hb.frozen g2).trans (h.ft k), o1, o2, o3, hs, ho, hr, by rw [ee]; exact h.he, by rw [ev]; exact h.hv, by have := h.size; have := hb.size; omega, h.below.trans (hb.mono (by omega))⟩
  obtain ⟨v, hv⟩ := h.t k hk
  exact ⟨v, (hb.cell g2).trans hv⟩
theorem TMem.next {w w' w1 : World} {I : Img} {v1 v2 v3 : Value} {a b c : Int} (h : TMem w w' I v1 v2 v3 a b c) (hb : Below w'.heap.size w' w1) : TMem w w1 I v1 v2 v3 a b c :=
  h.far (hb.mono h.size) (own_next h.o1 hb) (own_next h.o2 hb) (own_next h.o3 hb) h.hs h.ho h.hr rfl rfl
/-- A store into the image's own block. -/
theorem TMem.set {w w' : World} {I I' : Img} {v1 v2 v3 u1 u2 u3 u : Value} {a b c : Int} (h : TMem w w' I v1 v2 v3 a b c) (k : Nat) (hk : k < 5) (hu : ([v1, .int .u16 I.entry, .int .u16 I.vector, v2, v3] : List Value).set k u = [u1, .int .u16 I'.entry, .int .u16 I'.vector, u2, u3])
    (o1 : (w'.setCell ⟨w.heap.size, k, none⟩ u).ownsRow (w.heap.size + 3) 9 1 u1 I'.banks.length (I'.banks.map Value.string)) (o2 : (w'.setCell ⟨w.heap.size, k, none⟩ u).ownsRow (w.heap.size + 3) 39 3 u2 I'.data.length (I'.data.flatMap ObjI.cells)) (o3 : (w'.setCell ⟨w.heap.size, k, none⟩ u).ownsRow (w.heap.size + 3) 41 2 u3 I'.relocs.length (I'.relocs.flatMap RelI.cells))
    (hs : ∀ s ∈ I'.banks, s.size ≤ 4096) (ho : ∀ o ∈ I'.data, o.ok) (hr : ∀ r ∈ I'.relocs, r.ok) (he : OkU16 I'.entry) (hv : OkU16 I'.vector) : TMem w (w'.setCell ⟨w.heap.size, k, none⟩ u) I' u1 u2 u3 a b c := by
  have hne : ∀ m j, m ≠ 0 → (⟨w.heap.size, k, none⟩ : Addr) ≠ ⟨w.heap.size + m, j, none⟩ := fun m j hm e => by injection e with e1; omega
  have hc : ∀ m j, m ≠ 0 → (w'.setCell ⟨w.heap.size, k, none⟩ u).cell? ⟨w.heap.size + m, j, none⟩ = w'.cell? ⟨w.heap.size + m, j, none⟩ := fun m j hm => World.cell?_setCell_other _ _ _ _ (hne m j hm)
  have hold : ∀ j x, ([v1, .int .u16 I.entry, .int .u16 I.vector, v2, v3] : List Value)[j]? = some x → w'.cell? ⟨w.heap.size, j, none⟩ = some x := by
    intro j x hx
    have hj : j < 5 := (List.getElem?_eq_some_iff.1 hx).1
    rcases (show j = 0 ∨ j = 1 ∨ j = 2 ∨ j = 3 ∨ j = 4 by omega) with rfl | rfl | rfl | rfl | rfl <;> simp at hx <;> subst hx
    · exact h.i0
    · exact h.i1
    · exact h.i2
    · exact h.i3
    · exact h.i4
  have hnew : ∀ j x, ([u1, .int .u16 I'.entry, .int .u16 I'.vector, u2, u3] : List Value)[j]? = some x → (w'.setCell ⟨w.heap.size, k, none⟩ u).cell? ⟨w.heap.size, j, none⟩ = some x := by
    intro j x hx
    rw [← hu] at hx
    by_cases e : k = j
    · subst e
      rw [List.getElem?_set_self (by simpa using hk)] at hx
      cases hx
      obtain ⟨y, hy⟩ := at_some ([v1, .int .u16 I.entry, .int .u16 I.vector, v2, v3] : List Value) k (by simpa using hk)
      exact World.cell?_setCell_same _ _ _ (hold k y hy)
    · rw [List.getElem?_set_ne e] at hx
      exact (World.cell?_setCell_other _ _ _ _ (addr_ne _ k j e)).trans (hold j x hx)
  refine ⟨hnew 0 _ rfl, hnew 1 _ rfl, hnew 2 _ rfl, hnew 3 _ rfl, hnew 4 _ rfl, fun j => (frozen_set' _ _ _ _).trans (h.fi j), (hc 1 0 (by decide)).trans h.q0, (hc 1 1 (by decide)).trans h.q1, (hc 1 2 (by decide)).trans h.q2, fun j hj => ?_, fun j => (frozen_set' _ _ _ _).trans (h.ft j), o1, o2, o3, hs, ho, hr, he, hv, by simp; exact h.size, h.below.setCell (Nat.le_refl _) _⟩
  obtain ⟨v, hv⟩ := h.t j hj
  exact ⟨v, (hc 2 j (by decide)).trans hv⟩
/-- What Turned hands back. -/
def TurnedPost (I : Img) (w : World) (e : Ending) (w' : World) : Prop :=
  ∃ (J : Img) (p1 : Option Addr) (c1 : Nat) (p2 : Option Addr) (c2 : Nat) (p3 : Option Addr) (c3 : Nat), e = .returned (imgV p1 c1 p2 c2 p3 c3 J) ∧ ImgAt w' p1 p2 p3 J ∧ (∀ s ∈ J.banks, s.size ≤ 4096) ∧ J.banks.length ≤ I.banks.length ∧ J.data.length ≤ I.data.length ∧ J.relocs.length ≤ I.relocs.length + 1 ∧ Below w.heap.size w w'
/-- The end: the image is handed back through the third block. -/
theorem TMem.out {w w' : World} {I J : Img} {v1 v2 v3 : Value} {a b c : Int} (h : TMem w w' J v1 v2 v3 a b c) (l1 : J.banks.length ≤ I.banks.length) (l2 : J.data.length ≤ I.data.length) (l3 : J.relocs.length ≤ I.relocs.length + 1) (b1 : I.banks.length ≤ 100000) (b2 : I.data.length ≤ 100000) (b3 : I.relocs.length ≤ 100000) :
    ∃ WF : World, WF = ((((w'.setCell ⟨w.heap.size + 2, 0, none⟩ v1).setCell ⟨w.heap.size + 2, 1, none⟩ (.int .u16 J.entry)).setCell ⟨w.heap.size + 2, 2, none⟩ (.int .u16 J.vector)).setCell ⟨w.heap.size + 2, 3, none⟩ v2).setCell ⟨w.heap.size + 2, 4, none⟩ v3 ∧
      WF.cell? ⟨w.heap.size + 2, 0, none⟩ = some v1 ∧ WF.cell? ⟨w.heap.size + 2, 1, none⟩ = some (.int .u16 J.entry) ∧ WF.cell? ⟨w.heap.size + 2, 2, none⟩ = some (.int .u16 J.vector) ∧ WF.cell? ⟨w.heap.size + 2, 3, none⟩ = some v2 ∧ WF.cell? ⟨w.heap.size + 2, 4, none⟩ = some v3 ∧
      TurnedPost I w (.returned (.agg #[v1, .int .u16 J.entry, .int .u16 J.vector, v2, v3])) WF := by
  obtain ⟨u0, t0⟩ := h.t 0 (by decide)
  obtain ⟨u1, t1⟩ := h.t 1 (by decide)
  obtain ⟨u2, t2⟩ := h.t 2 (by decide)
  obtain ⟨u3, t3⟩ := h.t 3 (by decide)
  obtain ⟨u4, t4⟩ := h.t 4 (by decide)
  obtain ⟨x0, x1, x2, x3, x4⟩ := set5 w' (w.heap.size + 2) v1 (.int .u16 J.entry) (.int .u16 J.vector) v2 v3 _ _ _ _ _ t0 t1 t2 t3 t4
  have hlt : w.heap.size + 2 < w.heap.size + 3 := by omega
  have hN : w.heap.size ≤ w.heap.size + 2 := by omega
  have k1 := own_set (j := 4) (u := v3) (own_set (j := 3) (u := v2) (own_set (j := 2) (u := .int .u16 J.vector) (own_set (j := 1) (u := .int .u16 J.entry) (own_set (j := 0) (u := v1) h.o1 hlt) hlt) hlt) hlt) hlt
  have k2 := own_set (j := 4) (u := v3) (own_set (j := 3) (u := v2) (own_set (j := 2) (u := .int .u16 J.vector) (own_set (j := 1) (u := .int .u16 J.entry) (own_set (j := 0) (u := v1) h.o2 hlt) hlt) hlt) hlt) hlt
  have k3 := own_set (j := 4) (u := v3) (own_set (j := 3) (u := v2) (own_set (j := 2) (u := .int .u16 J.vector) (own_set (j := 1) (u := .int .u16 J.entry) (own_set (j := 0) (u := v1) h.o3 hlt) hlt) hlt) hlt) hlt
  have kb := ((((h.below.setCell (p := ⟨w.heap.size + 2, 0, none⟩) hN v1).setCell (p := ⟨w.heap.size + 2, 1, none⟩) hN (.int .u16 J.entry)).setCell (p := ⟨w.heap.size + 2, 2, none⟩) hN (.int .u16 J.vector)).setCell (p := ⟨w.heap.size + 2, 3, none⟩) hN v2).setCell (p := ⟨w.heap.size + 2, 4, none⟩) hN v3
  refine ⟨_, rfl, x0, x1, x2, x3, x4, ?_⟩
  have hO : Owned (w.heap.size + 3) _ J v1 v2 v3 := ⟨k1, k2, k3⟩
  obtain ⟨p1, c1, p2, c2, p3, c3, rfl, rfl, rfl, hI⟩ := hO.img (fun s hs => Nat.le_trans (h.hs s hs) (by decide)) h.ho h.hr h.he h.hv (by unfold maxLen; omega) (by unfold maxLen; omega) (by unfold maxLen; omega)
  exact ⟨J, p1, c1, p2, c2, p3, c3, rfl, hI, h.hs, l1, l2, l3, kb⟩
theorem tmem_start (p1 : Option Addr) (c1 : Nat) (p2 : Option Addr) (c2 : Nat) (p3 : Option Addr) (c3 : Nat) (I : Img) (x y z : Int) (w w1 : World) (v1 v2 v3 : Value) (hB : Below (((w.alloc (Obj.cells #[.slice p1 I.banks.length c1, .int .u16 I.entry, .int .u16 I.vector, .slice p2 I.data.length c2, .slice p3 I.relocs.length c3] 30)).alloc (Obj.cells #[.int .i64 x, .int .i64 y, .int .i64 z] 23)).alloc (Obj.cells #[Value.slice none 0 0, Value.int IntKind.u16 0, Value.int IntKind.u16 0, Value.slice none 0 0, Value.slice none 0 0] 30)).heap.size (((w.alloc (Obj.cells #[.slice p1 I.banks.length c1, .int .u16 I.entry, .int .u16 I.vector, .slice p2 I.data.length c2, .slice p3 I.relocs.length c3] 30)).alloc (Obj.cells #[.int .i64 x, .int .i64 y, .int .i64 z] 23)).alloc (Obj.cells #[Value.slice none 0 0, Value.int IntKind.u16 0, Value.int IntKind.u16 0, Value.slice none 0 0, Value.slice none 0 0] 30)) w1) (hO : Owned ((((w.alloc (Obj.cells #[.slice p1 I.banks.length c1, .int .u16 I.entry, .int .u16 I.vector, .slice p2 I.data.length c2, .slice p3 I.relocs.length c3] 30)).alloc (Obj.cells #[.int .i64 x, .int .i64 y, .int .i64 z] 23)).alloc (Obj.cells #[Value.slice none 0 0, Value.int IntKind.u16 0, Value.int IntKind.u16 0, Value.slice none 0 0, Value.slice none 0 0] 30)).heap.size + 2) w1 I v1 v2 v3)
    (hs : ∀ s ∈ I.banks, s.size ≤ 4096) (ho : ∀ o ∈ I.data, o.ok) (hr : ∀ r ∈ I.relocs, r.ok) (he : OkU16 I.entry) (hv : OkU16 I.vector) :
    w1.cell? ⟨w.heap.size, 0, none⟩ = some (.slice p1 I.banks.length c1) ∧ w1.cell? ⟨w.heap.size, 1, none⟩ = some (.int .u16 I.entry) ∧ w1.cell? ⟨w.heap.size, 2, none⟩ = some (.int .u16 I.vector) ∧ w1.cell? ⟨w.heap.size, 3, none⟩ = some (.slice p2 I.data.length c2) ∧ w1.cell? ⟨w.heap.size, 4, none⟩ = some (.slice p3 I.relocs.length c3) ∧
    (∀ k, w1.frozen? ⟨w.heap.size, k, none⟩ = false) ∧
    TMem w (((((w1.setCell ⟨w.heap.size, 0, none⟩ v1).setCell ⟨w.heap.size, 1, none⟩ (.int .u16 I.entry)).setCell ⟨w.heap.size, 2, none⟩ (.int .u16 I.vector)).setCell ⟨w.heap.size, 3, none⟩ v2).setCell ⟨w.heap.size, 4, none⟩ v3) I v1 v2 v3 x y z := by
  have hz : (((w.alloc (Obj.cells #[.slice p1 I.banks.length c1, .int .u16 I.entry, .int .u16 I.vector, .slice p2 I.data.length c2, .slice p3 I.relocs.length c3] 30)).alloc (Obj.cells #[.int .i64 x, .int .i64 y, .int .i64 z] 23)).alloc (Obj.cells #[Value.slice none 0 0, Value.int IntKind.u16 0, Value.int IntKind.u16 0, Value.slice none 0 0, Value.slice none 0 0] 30)).heap.size = w.heap.size + 3 := by simp
  have hb0 := below_next (below_alloc (below_alloc (below1 w (Obj.cells #[.slice p1 I.banks.length c1, .int .u16 I.entry, .int .u16 I.vector, .slice p2 I.data.length c2, .slice p3 I.relocs.length c3] 30)) (Obj.cells #[.int .i64 x, .int .i64 y, .int .i64 z] 23)) (Obj.cells #[Value.slice none 0 0, Value.int IntKind.u16 0, Value.int IntKind.u16 0, Value.slice none 0 0, Value.slice none 0 0] 30)) hB
  have hsz := hB.size
  rw [hz] at hO hsz
  have g0 : w.heap.size < (((w.alloc (Obj.cells #[.slice p1 I.banks.length c1, .int .u16 I.entry, .int .u16 I.vector, .slice p2 I.data.length c2, .slice p3 I.relocs.length c3] 30)).alloc (Obj.cells #[.int .i64 x, .int .i64 y, .int .i64 z] 23)).alloc (Obj.cells #[Value.slice none 0 0, Value.int IntKind.u16 0, Value.int IntKind.u16 0, Value.slice none 0 0, Value.slice none 0 0] 30)).heap.size := by rw [hz]; omega
  have g1 : w.heap.size + 1 < (((w.alloc (Obj.cells #[.slice p1 I.banks.length c1, .int .u16 I.entry, .int .u16 I.vector, .slice p2 I.data.length c2, .slice p3 I.relocs.length c3] 30)).alloc (Obj.cells #[.int .i64 x, .int .i64 y, .int .i64 z] 23)).alloc (Obj.cells #[Value.slice none 0 0, Value.int IntKind.u16 0, Value.int IntKind.u16 0, Value.slice none 0 0, Value.slice none 0 0] 30)).heap.size := by rw [hz]; omega
  have g2 : w.heap.size + 2 < (((w.alloc (Obj.cells #[.slice p1 I.banks.length c1, .int .u16 I.entry, .int .u16 I.vector, .slice p2 I.data.length c2, .slice p3 I.relocs.length c3] 30)).alloc (Obj.cells #[.int .i64 x, .int .i64 y, .int .i64 z] 23)).alloc (Obj.cells #[Value.slice none 0 0, Value.int IntKind.u16 0, Value.int IntKind.u16 0, Value.slice none 0 0, Value.slice none 0 0] 30)).heap.size := by rw [hz]; omega
  have n0 := (hB.cell (p := ⟨w.heap.size, 0, none⟩) g0).trans (show _ = some (Value.slice p1 I.banks.length c1) by simp [go_sem])
  have n1 := (hB.cell (p := ⟨w.heap.size, 1, none⟩) g0).trans (show _ = some (Value.int .u16 I.entry) by simp [go_sem])
  have n2 := (hB.cell (p := ⟨w.heap.size, 2, none⟩) g0).trans (show _ = some (Value.int .u16 I.vector) by simp [go_sem])
  have n3 := (hB.cell (p := ⟨w.heap.size, 3, none⟩) g0).trans (show _ = some (Value.slice p2 I.data.length c2) by simp [go_sem])
  have n4 := (hB.cell (p := ⟨w.heap.size, 4, none⟩) g0).trans (show _ = some (Value.slice p3 I.relocs.length c3) by simp [go_sem])
  have fz : ∀ k, w1.frozen? ⟨w.heap.size, k, none⟩ = false := fun k => (hB.frozen (p := ⟨w.heap.size, k, none⟩) g0).trans (by simp [go_sem])
  refine ⟨n0, n1, n2, n3, n4, fz, ?_⟩
  have m0 := (hB.cell (p := ⟨w.heap.size + 1, 0, none⟩) g1).trans (show _ = some (Value.int .i64 x) by simp [go_sem])
  have m1 := (hB.cell (p := ⟨w.heap.size + 1, 1, none⟩) g1).trans (show _ = some (Value.int .i64 y) by simp [go_sem])
  have m2 := (hB.cell (p := ⟨w.heap.size + 1, 2, none⟩) g1).trans (show _ = some (Value.int .i64 z) by simp [go_sem])
  have hT : ∀ k, k < 5 → ∃ v, w1.cell? ⟨w.heap.size + 2, k, none⟩ = some v := by
    intro k hk
    have e : w1.cell? ⟨w.heap.size + 2, k, none⟩ = _ := hB.cell (p := ⟨w.heap.size + 2, k, none⟩) g2
    rcases (show k = 0 ∨ k = 1 ∨ k = 2 ∨ k = 3 ∨ k = 4 by omega) with rfl | rfl | rfl | rfl | rfl <;> exact ⟨_, e.trans (by simp [go_sem]; rfl)⟩
  have fT : ∀ k, w1.frozen? ⟨w.heap.size + 2, k, none⟩ = false := fun k => (hB.frozen (p := ⟨w.heap.size + 2, k, none⟩) g2).trans (by simp [go_sem])
  obtain ⟨x0, x1, x2, x3, x4⟩ := set5 w1 w.heap.size v1 (.int .u16 I.entry) (.int .u16 I.vector) v2 v3 _ _ _ _ _ n0 n1 n2 n3 n4
  have hc : ∀ (W : World) (j : Nat) (u : Value) (m i : Nat), m ≠ 0 → (W.setCell ⟨w.heap.size, j, none⟩ u).cell? ⟨w.heap.size + m, i, none⟩ = W.cell? ⟨w.heap.size + m, i, none⟩ := fun W j u m i hm => World.cell?_setCell_other _ _ _ _ (fun e => by injection e with e1; omega)
  have hlt : w.heap.size < w.heap.size + 3 := by omega
  have hN : w.heap.size + 3 ≤ w.heap.size + 3 + 2 := by omega
  have k1 := own_set (j := 4) (u := v3) (own_set (j := 3) (u := v2) (own_set (j := 2) (u := .int .u16 I.vector) (own_set (j := 1) (u := .int .u16 I.entry) (own_set (j := 0) (u := v1) (own_mono hO.o1 hN) hlt) hlt) hlt) hlt) hlt
  have k2 := own_set (j := 4) (u := v3) (own_set (j := 3) (u := v2) (own_set (j := 2) (u := .int .u16 I.vector) (own_set (j := 1) (u := .int .u16 I.entry) (own_set (j := 0) (u := v1) (own_mono hO.o2 hN) hlt) hlt) hlt) hlt) hlt
  have k3 := own_set (j := 4) (u := v3) (own_set (j := 3) (u := v2) (own_set (j := 2) (u := .int .u16 I.vector) (own_set (j := 1) (u := .int .u16 I.entry) (own_set (j := 0) (u := v1) (own_mono hO.o3 hN) hlt) hlt) hlt) hlt) hlt
  have hn : w.heap.size ≤ w.heap.size := Nat.le_refl _
  refine ⟨x0, x1, x2, x3, x4, fun k => ?_, ?_, ?_, ?_, fun k hk => ?_, fun k => ?_, k1, k2, k3, hs, ho, hr, he, hv, by simp; omega, ((((hb0.setCell (p := ⟨w.heap.size, 0, none⟩) hn v1).setCell (p := ⟨w.heap.size, 1, none⟩) hn (.int .u16 I.entry)).setCell (p := ⟨w.heap.size, 2, none⟩) hn (.int .u16 I.vector)).setCell (p := ⟨w.heap.size, 3, none⟩) hn v2).setCell (p := ⟨w.heap.size, 4, none⟩) hn v3⟩
  · simp only [frozen_set']; exact fz k
  · rw [hc _ _ _ 1 0 (by decide), hc _ _ _ 1 0 (by decide), hc _ _ _ 1 0 (by decide), hc _ _ _ 1 0 (by decide), hc _ _ _ 1 0 (by decide)]; exact m0
  · rw [hc _ _ _ 1 1 (by decide), hc _ _ _ 1 1 (by decide), hc _ _ _ 1 1 (by decide), hc _ _ _ 1 1 (by decide), hc _ _ _ 1 1 (by decide)]; exact m1
  · rw [hc _ _ _ 1 2 (by decide), hc _ _ _ 1 2 (by decide), hc _ _ _ 1 2 (by decide), hc _ _ _ 1 2 (by decide), hc _ _ _ 1 2 (by decide)]; exact m2
  · obtain ⟨v, hv'⟩ := hT k hk
    exact ⟨v, by rw [hc _ _ _ 2 k (by decide), hc _ _ _ 2 k (by decide), hc _ _ _ 2 k (by decide), hc _ _ _ 2 k (by decide), hc _ _ _ 2 k (by decide)]; exact hv'⟩
  · simp only [frozen_set']; exact fT k
theorem own_store {w : World} {base e size n g c : Nat} {u : Value} {xs : List Value} (h : w.ownsRow base e size (.slice (some ⟨g, 0, none⟩) n c) n xs) (j : Nat) (hj : j < n * size) : (w.setCell ⟨g, j, none⟩ u).ownsRow base e size (.slice (some ⟨g, 0, none⟩) n c) n (xs.set j u) := by
  refine ⟨by rw [List.length_set]; exact h.1, ?_⟩
  rcases h.2 with ⟨hv, _⟩ | ⟨g', cap, cur, hv, hb, hg, hn, hc, hz, ht⟩
  · cases hv
  · cases hv
    refine .inr ⟨g, c, cur.setIfInBounds j u, rfl, hb, ?_, hn, hc, by simpa using hz, ?_⟩
    · simp [World.setCell, Array.getElem?_modify, hg]
    · rw [Array.toList_setIfInBounds, List.take_set, ht]
theorem own_off {w : World} {base e1 s1 n1 base2 e2 s2 n2 g j c : Nat} {v1 v2 u : Value} {x1 x2 : List Value} (h1 : w.ownsRow base e1 s1 v1 n1 x1) (h2 : w.ownsRow base2 e2 s2 v2 n2 x2) (hne : e1 ≠ e2) (hv : v2 = .slice (some ⟨g, 0, none⟩) n2 c) : (w.setCell ⟨g, j, none⟩ u).ownsRow base e1 s1 v1 n1 x1 := by
  subst hv
  refine h1.kept (row := some g) ⟨rfl, rfl, rfl, by simp, fun k hk hne => Below.heap_setCell _ _ _ _ (fun e => hne (by rw [e]))⟩ ?_
  have := own_apart h1 h2 hne
  simpa [Value.ownBlock] using this
theorem flat_set {α : Type} (f : α → List Value) (c : Nat) (l : List α) (hc : ∀ x, (f x).length = c) : ∀ (k j : Nat) (o o' : α) (u : Value), l[k]? = some o → j < c → f o' = (f o).set j u → (l.flatMap f).set (k * c + j) u = (l.set k o').flatMap f := by
  induction l with
  | nil => intro k j o o' u h _ _; simp at h
  | cons y l ih =>
    intro k j o o' u h hj hu
    cases k with
    | zero =>
      simp at h; subst h
      rw [Nat.zero_mul, Nat.zero_add, List.flatMap_cons, List.set_append_left _ _ (by rw [hc]; exact hj), List.set_cons_zero, List.flatMap_cons, hu]
    | succ k =>
      simp at h
      rw [List.flatMap_cons, List.set_append_right _ _ (by rw [hc, Nat.succ_mul]; omega), List.set_cons_succ, List.flatMap_cons, ← ih k j o o' u h hj hu, hc]
      congr 2
      rw [Nat.succ_mul]; omega
theorem mem_set {α : Type} {l : List α} {k : Nat} {a x : α} {P : α → Prop} (h : x ∈ l.set k a) (hP : ∀ y ∈ l, P y) (ha : P a) : P x := by
  rcases List.mem_or_eq_of_mem_set h with h | h
  · exact hP x h
  · rw [h]; exact ha
theorem own_cap {w : World} {base e size n c : Nat} {p : Option Addr} {xs : List Value} (h : w.ownsRow base e size (.slice p n c) n xs) : n ≤ c := by
  rcases h.2 with ⟨hv, hn⟩ | ⟨g, cap, cur, hv, _, _, hn, _⟩
  · omega
  · cases hv; exact hn
theorem own_shrink {w : World} {base e size n m c : Nat} {p : Option Addr} {xs : List Value} (h : w.ownsRow base e size (.slice p n c) n xs) (hm : m ≤ n) (hn : 0 < n) : w.ownsRow base e size (.slice p m c) m (xs.take (m * size)) := by
  have hmn : m * size ≤ n * size := Nat.mul_le_mul_right _ hm
  refine ⟨by rw [List.length_take, h.1]; omega, ?_⟩
  rcases h.2 with ⟨hv, h0⟩ | ⟨g, cap, cur, hv, hb, hg, hn2, hc, hz, ht⟩
  · omega
  · cases hv
    refine .inr ⟨g, c, cur, rfl, hb, hg, Nat.le_trans hm hn2, hc, hz, ?_⟩
    rw [← ht, List.take_take, Nat.min_eq_left hmn]
theorem TMem.setObj {w w' : World} {I : Img} {v1 v2 v3 : Value} {a b c : Int} (h : TMem w w' I v1 v2 v3 a b c) (k j g cp : Nat) (o o' : ObjI) (u : Value) (hv : v2 = .slice (some ⟨g, 0, none⟩) I.data.length cp) (hk : I.data[k]? = some o) (hj : j < 3) (hu : o'.cells = o.cells.set j u) (hok : o'.ok) :
    TMem w (w'.setCell ⟨g, k * 3 + j, none⟩ u) { I with data := I.data.set k o' } v1 v2 v3 a b c := by
  subst hv
  have hkl := (List.getElem?_eq_some_iff.1 hk).1
  have hg : w.heap.size + 3 ≤ g := (h.o2.lt g rfl).1
  have hst := own_store (u := u) h.o2 (k * 3 + j) (by have : (k + 1) * 3 ≤ I.data.length * 3 := Nat.mul_le_mul_right _ hkl; omega)
  rw [flat_set ObjI.cells 3 I.data (fun _ => rfl) k j o o' u hk hj hu] at hst
  refine h.far (I' := { I with data := I.data.set k o' }) ((Below.refl _ _).setCell hg _) (own_off h.o1 h.o2 (by decide) rfl) (by simpa using hst) (own_off h.o3 h.o2 (by decide) rfl) h.hs (fun x hx => mem_set hx h.ho hok) h.hr rfl rfl
theorem TMem.setRel {w w' : World} {I : Img} {v1 v2 v3 : Value} {a b c : Int} (h : TMem w w' I v1 v2 v3 a b c) (k j g cp : Nat) (o o' : RelI) (u : Value) (hv : v3 = .slice (some ⟨g, 0, none⟩) I.relocs.length cp) (hk : I.relocs[k]? = some o) (hj : j < 2) (hu : o'.cells = o.cells.set j u) (hok : o'.ok) :
    TMem w (w'.setCell ⟨g, k * 2 + j, none⟩ u) { I with relocs := I.relocs.set k o' } v1 v2 v3 a b c := by
  subst hv
  have hkl := (List.getElem?_eq_some_iff.1 hk).1
  have hg : w.heap.size + 3 ≤ g := (h.o3.lt g rfl).1
  have hst := own_store (u := u) h.o3 (k * 2 + j) (by have : (k + 1) * 2 ≤ I.relocs.length * 2 := Nat.mul_le_mul_right _ hkl; omega)
  rw [flat_set RelI.cells 2 I.relocs (fun _ => rfl) k j o o' u hk hj hu] at hst
  refine h.far (I' := { I with relocs := I.relocs.set k o' }) ((Below.refl _ _).setCell hg _) (own_off h.o1 h.o3 (by decide) rfl) (own_off h.o2 h.o3 (by decide) rfl) (by simpa using hst) h.hs h.ho (fun x hx => mem_set hx h.hr hok) rfl rfl
theorem TMem.setStr {w w' : World} {I : Img} {v1 v2 v3 : Value} {a b c : Int} (h : TMem w w' I v1 v2 v3 a b c) (k g cp : Nat) (s' : ByteArray) (hv : v1 = .slice (some ⟨g, 0, none⟩) I.banks.length cp) (hk : k < I.banks.length) (hok : s'.size ≤ 4096) :
    TMem w (w'.setCell ⟨g, k, none⟩ (.string s')) { I with banks := I.banks.set k s' } v1 v2 v3 a b c := by
  subst hv
  have hg : w.heap.size + 3 ≤ g := (h.o1.lt g rfl).1
  have hst := own_store (u := .string s') h.o1 k (by omega)
  have e : (I.banks.map Value.string).set k (.string s') = (I.banks.set k s').map Value.string := by rw [List.map_set]
  rw [e] at hst
  exact h.far (I' := { I with banks := I.banks.set k s' }) ((Below.refl _ _).setCell hg _) (by simpa using hst) (own_off h.o2 h.o1 (by decide) rfl) (own_off h.o3 h.o1 (by decide) rfl) (fun x hx => mem_set (P := fun s : ByteArray => s.size ≤ 4096) hx h.hs hok) h.ho h.hr rfl rfl
theorem own_addr {w : World} {base e size n c : Nat} {p : Option Addr} {xs : List Value} (h : w.ownsRow base e size (.slice p n c) n xs) (hn : 0 < n) :
    ∃ g, p = some ⟨g, 0, none⟩ ∧ g < w.heap.size ∧ base ≤ g ∧ (∀ j u, xs[j]? = some u → w.cell? ⟨g, j, none⟩ = some u) ∧ ∀ j, w.frozen? ⟨g, j, none⟩ = false := by
  rcases h.2 with ⟨hv, h0⟩ | ⟨g, cap, cur, hv, hb, hg, _⟩
  · omega
  · cases hv
    refine ⟨g, rfl, (Array.getElem?_eq_some_iff.1 hg).1, hb, fun j u hu => ?_, fun j => by simp [World.frozen?, hg]⟩
    have := h.cells (g := g) rfl j u hu
    rwa [show (⟨g, 0, none⟩ : Addr).add j = ⟨g, j, none⟩ from by unfold Addr.add; split <;> simp_all] at this
end Go.Proofs.Ytgdiaaoekkdibaa
