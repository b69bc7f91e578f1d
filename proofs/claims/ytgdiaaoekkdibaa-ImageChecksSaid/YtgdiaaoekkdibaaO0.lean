/- A whole list appended to an empty one, nil or not; where a list's cells lie. -/
import Derived.Test.YtgdiaaoekkdibaaA1
namespace Go.Proofs.Ytgdiaaoekkdibaa
set_option linter.unusedVariables false
set_option linter.unusedSimpArgs false
open Go.RowKit
/-- Where a list's cells lie, or that there are none. -/
def SrcAt (w : World) (p : Option Addr) (n : Nat) (xs : List Value) : Prop := n = 0 ∨ ∃ g, p = some ⟨g, 0, none⟩ ∧ g < w.heap.size ∧ ∀ j u, xs[j]? = some u → w.cell? ⟨g, j, none⟩ = some u
theorem SrcAt.kept {w w' : World} {p : Option Addr} {n : Nat} {xs : List Value} (h : SrcAt w p n xs) (hb : Below w.heap.size w w') : SrcAt w' p n xs := by
  rcases h with h | ⟨g, e, hg, hc⟩
  · exact .inl h
  · exact .inr ⟨g, e, Nat.lt_of_lt_of_le hg hb.size, fun j u hu => (hb.cell hg).trans (hc j u hu)⟩
theorem strs_src {w : World} {p : Option Addr} {l : List ByteArray} (h : StrsAt w p l) : SrcAt w p l.length (l.map Value.string) := by
  by_cases h0 : l.length = 0
  · exact .inl h0
  obtain ⟨s, hs⟩ := at_some l 0 (by omega)
  obtain ⟨B, e, hB, _⟩ := h 0 s hs
  refine .inr ⟨B, e, hB, fun j u hu => ?_⟩
  rw [List.getElem?_map] at hu
  cases hx : l[j]? with
  | none => rw [hx] at hu; simp at hu
  | some s2 =>
    rw [hx] at hu
    obtain ⟨B2, e2, _, hc, _⟩ := h j s2 hx
    rw [e] at e2
    simp at e2 hu
    subst e2; subst hu
    exact hc
theorem flat_at {α : Type} (f : α → List Value) (c : Nat) (l : List α) (hc : ∀ x, (f x).length = c) (h0 : 0 < c) (j : Nat) (u : Value) (h : (l.flatMap f)[j]? = some u) : ∃ x, l[j / c]? = some x ∧ (f x)[j % c]? = some u := by
  have hj := (List.getElem?_eq_some_iff.1 h).1
  have hlen : (l.flatMap f).length = c * l.length := by
    clear h hj
    induction l with
    | nil => simp
    | cons x l ih => rw [List.flatMap_cons, List.length_append, ih, hc, List.length_cons, Nat.mul_succ]; omega
  rw [hlen] at hj
  have hk : j / c < l.length := Nat.div_lt_of_lt_mul hj
  obtain ⟨x, hx⟩ := at_some l (j / c) hk
  have hm : j % c < c := Nat.mod_lt _ h0
  have e : j / c * c + j % c = j := by rw [Nat.mul_comm]; exact Nat.div_add_mod j c
  have g := flat_get f c l hc (j / c) (j % c) x hx hm
  rw [e] at g
  exact ⟨x, hx, g ▸ h⟩
theorem objs_src {w : World} {p : Option Addr} {l : List ObjI} (h : ObjsAt w p l) : SrcAt w p l.length (l.flatMap ObjI.cells) := by
  by_cases h0 : l.length = 0
  · exact .inl h0
  obtain ⟨s, hs⟩ := at_some l 0 (by omega)
  obtain ⟨B, e, hB, _⟩ := h 0 s hs
  refine .inr ⟨B, e, hB, fun j u hu => ?_⟩
  obtain ⟨o, ho, hr⟩ := flat_at ObjI.cells 3 l (fun _ => rfl) (by decide) j u hu
  obtain ⟨B2, e2, _, d0, d1, d2, _⟩ := h (j / 3) o ho
  rw [e] at e2
  simp at e2
  subst e2
  have ej : j = j / 3 * 3 + j % 3 := by omega
  rcases (show j % 3 = 0 ∨ j % 3 = 1 ∨ j % 3 = 2 by omega) with hm | hm | hm
  · rw [hm] at hr; simp [ObjI.cells] at hr; subst hr
    have e3 : j = j / 3 * 3 := by omega
    rw [e3]; exact d0
  · rw [hm] at hr; simp [ObjI.cells] at hr; subst hr
    have e3 : j = j / 3 * 3 + 1 := by omega
    rw [e3, show (j / 3 * 3 + 1) / 3 = j / 3 from by omega] at *
    exact d1
  · rw [hm] at hr; simp [ObjI.cells] at hr; subst hr
    have e3 : j = j / 3 * 3 + 2 := by omega
    rw [e3, show (j / 3 * 3 + 2) / 3 = j / 3 from by omega] at *
    exact d2
theorem rels_src {w : World} {p : Option Addr} {l : List RelI} (h : RelsAt w p l) : SrcAt w p l.length (l.flatMap RelI.cells) := by
  by_cases h0 : l.length = 0
  · exact .inl h0
  obtain ⟨s, hs⟩ := at_some l 0 (by omega)
  obtain ⟨B, e, hB, _⟩ := h 0 s hs
  refine .inr ⟨B, e, hB, fun j u hu => ?_⟩
  obtain ⟨o, ho, hr⟩ := flat_at RelI.cells 2 l (fun _ => rfl) (by decide) j u hu
  obtain ⟨B2, e2, _, d0, d1, _⟩ := h (j / 2) o ho
  rw [e] at e2
  simp at e2
  subst e2
  rcases (show j % 2 = 0 ∨ j % 2 = 1 by omega) with hm | hm
  · rw [hm] at hr; simp [RelI.cells] at hr; subst hr
    have e3 : j = j / 2 * 2 := by omega
    rw [e3]; exact d0
  · rw [hm] at hr; simp [RelI.cells] at hr; subst hr
    have e3 : j = j / 2 * 2 + 1 := by omega
    rw [e3, show (j / 2 * 2 + 1) / 2 = j / 2 from by omega] at *
    exact d1
theorem row_empty (w : World) (t base size : Nat) (h : base ≤ w.heap.size) : (w.alloc (.cells #[] t)).ownsRow base t size (.slice (some ⟨w.heap.size, 0, none⟩) 0 0) 0 [] :=
  ⟨by simp, .inr ⟨w.heap.size, 0, #[], rfl, h, alloc_at w _, Nat.le_refl _, Nat.zero_le _, by simp, by simp⟩⟩
/-- An append of a whole list, nil or not. -/
theorem append_src {P : Program} (w : World) {ops : Array Oper} {rest : List Oper} {o : Oper} {a : Act} {Q : Exit → Act → World → Prop} (hgd : o.guard = none) (s x : Operand) (t : TypeId)
    (ho : o.op = .call { callee := .builtin .append, args := #[s, x], argTypes := #[t, t] })
    (base : Nat) (e : TypeId) (i : TypeInfo) (z : Value) (size bytes : Nat) (ht : P.underlying t = some (.slice e)) (hi : P.info? e = some i) (hz : i.zero = some z)
    (hsize : i.size = size) (hby : i.bytes = bytes) (hzs : z.cells.size = size) (hsz : 0 < size)
    (v : Value) (hs : a.eval s = v) (hown : w.ownsRow base e size v 0 [])
    (p : Option Addr) (m c : Nat) (news : List Value) (hx : a.eval x = .slice p m c) (hl : news.length = m * size) (hr : SrcAt w p m news) (h1 : ∀ u ∈ news, u.oneCell' = true)
    (h63 : m ≤ maxLen) (hbytes : m * bytes ≤ 140737488355328) (hbase : base ≤ w.heap.size)
    (h : ∀ v' w', w'.ownsRow base e size v' m news → w.grownBy w' v.ownBlock → wpList P ops Q rest (a.put o.dst v') w') : wpList P ops Q (o :: rest) a w := by
  rcases p with _ | ad
  · have hm : m = 0 := by
      rcases hr with h0 | ⟨g, e2, _⟩
      · exact h0
      · cases e2
    subst hm
    obtain rfl : news = [] := List.eq_nil_of_length_eq_zero (by simpa using hl)
    refine wpList_plain hgd fun K hK => ?_
    have hrun : (Builtin.append_ #[t, t] o.type #[v, .slice none 0 c]).run P w = .ok v w := by
      rcases hown.2 with ⟨rfl, _⟩ | ⟨g, cap, cur, rfl, _, _, hnc, _⟩
      · simp [Builtin.append_, run_underlying ht, sizeOf, typeInfo, hi, Builtin.lenOf, Builtin.firstCells]
      · simp [Builtin.append_, run_underlying ht, sizeOf, typeInfo, hi, Builtin.lenOf, Builtin.firstCells, storeCells]
    unfold Oper.wp execOp
    simp only [ho, resolve, invoke, builtin, Sem.run_bind, Sem.run_pure, Result.andThen_ok, List.map_toArray, List.map_cons, List.map_nil, hs, hx, hrun]
    exact hK _ _ (h v w hown (grown_below (Below.refl _ _) _))
  · refine wpList_append_own w hgd s x t ho base e i z size bytes ht hi hz hsize hby hzs hsz v 0 [] hs hown ad m c news hx hl ?_ h1 (by omega) (by rw [Nat.zero_add]; exact hbytes) hbase (fun v' w' h2 h3 _ => h v' w' (by simpa using h2) h3)
    intro j u hu
    rcases hr with h0 | ⟨g, e2, _, hc⟩
    · subst h0
      rw [List.eq_nil_of_length_eq_zero (show news.length = 0 by simpa using hl)] at hu
      simp at hu
    · cases e2
      rw [show (⟨g, 0, none⟩ : Addr).add j = ⟨g, j, none⟩ from by unfold Addr.add; split <;> simp_all]
      exact hc j u hu
theorem flat_clen {α : Type} (f : α → List Value) (c : Nat) (l : List α) (hc : ∀ x, (f x).length = c) : (l.flatMap f).length = c * l.length := by
  induction l with
  | nil => simp
  | cons x l ih => rw [List.flatMap_cons, List.length_append, ih, hc, List.length_cons, Nat.mul_succ]; omega
theorem flat_one {α : Type} (f : α → List Value) (l : List α) (h : ∀ x, ∀ u ∈ f x, u.oneCell' = true) : ∀ u ∈ l.flatMap f, u.oneCell' = true := by
  intro u hu
  obtain ⟨x, _, hx⟩ := List.mem_flatMap.1 hu
  exact h x u hx
end Go.Proofs.Ytgdiaaoekkdibaa
