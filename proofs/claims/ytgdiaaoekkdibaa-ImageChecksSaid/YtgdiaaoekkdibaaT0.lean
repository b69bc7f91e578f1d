/- What Turned keeps in memory: three blocks of its own, and the rows of the copy. -/
import Derived.Test.YtgdiaaoekkdibaaO1
import Derived.Deep.RegionHeld3
import Derived.StillTailTactics
namespace Go.Proofs.Ytgdiaaoekkdibaa
set_option linter.unusedVariables false
set_option linter.unusedSimpArgs false
open Go.RowKit
theorem own_mono {w : World} {base base' e size n : Nat} {v : Value} {xs : List Value} (h : w.ownsRow base e size v n xs) (hb : base' ≤ base) : w.ownsRow base' e size v n xs := by
  refine ⟨h.1, ?_⟩
  rcases h.2 with h | ⟨g, cap, cur, hv, hg, r⟩
  · exact .inl h
  · exact .inr ⟨g, cap, cur, hv, Nat.le_trans hb hg, r⟩
structure TMem (w w' : World) (I : Img) (v1 v2 v3 : Value) (a b c : Int) : Prop where
  i0 : w'.cell? ⟨w.heap.size, 0, none⟩ = some v1
  i1 : w'.cell? ⟨w.heap.size, 1, none⟩ = some (.int .u16 I.entry)
  i2 : w'.cell? ⟨w.heap.size, 2, none⟩ = some (.int .u16 I.vector)
  i3 : w'.cell? ⟨w.heap.size, 3, none⟩ = some v2
  i4 : w'.cell? ⟨w.heap.size, 4, none⟩ = some v3
  fi : ∀ k, w'.frozen? ⟨w.heap.size, k, none⟩ = false
  q0 : w'.cell? ⟨w.heap.size + 1, 0, none⟩ = some (.int .i64 a)
  q1 : w'.cell? ⟨w.heap.size + 1, 1, none⟩ = some (.int .i64 b)
  q2 : w'.cell? ⟨w.heap.size + 1, 2, none⟩ = some (.int .i64 c)
  t : ∀ k, k < 5 → ∃ v, w'.cell? ⟨w.heap.size + 2, k, none⟩ = some v
  ft : ∀ k, w'.frozen? ⟨w.heap.size + 2, k, none⟩ = false
  o1 : w'.ownsRow (w.heap.size + 3) 9 1 v1 I.banks.length (I.banks.map Value.string)
  o2 : w'.ownsRow (w.heap.size + 3) 39 3 v2 I.data.length (I.data.flatMap ObjI.cells)
  o3 : w'.ownsRow (w.heap.size + 3) 41 2 v3 I.relocs.length (I.relocs.flatMap RelI.cells)
  hs : ∀ s ∈ I.banks, s.size ≤ 4096
  ho : ∀ o ∈ I.data, o.ok
  hr : ∀ r ∈ I.relocs, r.ok
  he : OkU16 I.entry
  hv : OkU16 I.vector
  size : w.heap.size + 3 ≤ w'.heap.size
  below : Below w.heap.size w w'
/-- A world in which only blocks from the rows on may differ. -/
theorem TMem.far {w w' w1 : World} {I I' : Img} {v1 v2 v3 : Value} {a b c : Int} (h : TMem w w' I v1 v2 v3 a b c) (hb : Below (w.heap.size + 3) w' w1)
    (o1 : w1.ownsRow (w.heap.size + 3) 9 1 v1 I'.banks.length (I'.banks.map Value.string)) (o2 : w1.ownsRow (w.heap.size + 3) 39 3 v2 I'.data.length (I'.data.flatMap ObjI.cells)) (o3 : w1.ownsRow (w.heap.size + 3) 41 2 v3 I'.relocs.length (I'.relocs.flatMap RelI.cells))
    (hs : ∀ s ∈ I'.banks, s.size ≤ 4096) (ho : ∀ o ∈ I'.data, o.ok) (hr : ∀ r ∈ I'.relocs, r.ok) (ee : I'.entry = I.entry) (ev : I'.vector = I.vector) : TMem w w1 I' v1 v2 v3 a b c := by
  have g0 : w.heap.size < w.heap.size + 3 := by omega
  have g1 : w.heap.size + 1 < w.heap.size + 3 := by omega
  have g2 : w.heap.size + 2 < w.heap.size + 3 := by omega
  refine ⟨(hb.cell g0).trans h.i0, by rw [ee]; exact (hb.cell g0).trans h.i1, by rw [ev]; exact (hb.cell g0).trans h.i2, (hb.cell g0).trans h.i3, (hb.cell g0).trans h.i4, fun k => (hb.frozen g0).trans (h.fi k),
    (hb.cell g1).trans h.q0, (hb.cell g1).trans h.q1, (hb.cell g1).trans h.q2, fun k hk => ?_, fun k => (hb.frozen g2).trans (h.ft k), o1, o2, o3, hs, ho, hr, by rw [ee]; exact h.he, by rw [ev]; exact h.hv, by have := h.size; have := hb.size; omega, h.below.trans (hb.mono (by omega))⟩
  obtain ⟨v, hv⟩ := h.t k hk
  exact ⟨v, (hb.cell g2).trans hv⟩
theorem TMem.next {w w' w1 : World} {I : Img} {v1 v2 v3 : Value} {a b c : Int} (h : TMem w w' I v1 v2 v3 a b c) (hb : Below w'.heap.size w' w1) : TMem w w1 I v1 v2 v3 a b c :=
  h.far (hb.mono h.size) (own_next h.o1 hb) (own_next h.o2 hb) (own_next h.o3 hb) h.hs h.ho h.hr rfl rfl
/-- A store into the image's own block. -/
theorem TMem.set {w w' : World} {I I' : Img} {v1 v2 v3 u1 u2 u3 u : Value} {a b c : Int} (h : TMem w w' I v1 v2 v3 a b c) (k : Nat) (hk : k < 5) (hu : ([v1, .int .u16 I.entry, .int .u16 I.vector, v2, v3] : List Value).set k u = [u1, .int .u16 I'.entry, .int .u16 I'.vector, u2, u3])
    (o1 : (w'.setCell ⟨w.heap.size, k, none⟩ u).ownsRow (w.heap.size + 3) 9 1 u1 I'.banks.length (I'.banks.map Value.string)) (o2 : (w'.setCell ⟨w.heap.size, k, none⟩ u).ownsRow (w.heap.size + 3) 39 3 u2 I'.data.length (I'.data.flatMap ObjI.cells)) (o3 : (w'.setCell ⟨w.heap.size, k, none⟩ u).ownsRow (w.heap.size + 3) 41 2 u3 I'.relocs.length (I'.relocs.flatMap RelI.cells))
    (hs : ∀ s ∈ I'.banks, s.size ≤ 4096) (ho : ∀ o ∈ I'.data, o.ok) (hr : ∀ r ∈ I'.relocs, r.ok) (he : OkU16 I'.entry) (hv : OkU16 I'.vector) : TMem w (w'.setCell ⟨w.heap.size, k, none⟩ u) I' u1 u2 u3 a b c := by
  have hne : ∀ m j, m ≠ 0 → (⟨w.heap.size, k, none⟩ : Addr) ≠ ⟨w.heap.size + m, j, none⟩ := fun m j hm e => by injection e with e1; omega
  have hc : ∀ m j, m ≠ 0 → (w'.setCell ⟨w.heap.size, k, none⟩ u).cell? ⟨w.heap.size + m, j, none⟩ = w'.cell? ⟨w.heap.size + m, j, none⟩ := fun m j hm => World.cell?_setCell_other _ _ _ _ (hne m j hm)
  have hold : ∀ j x, ([v1, .int .u16 I.entry, .int .u16 I.vector, v2, v3] : List Value)[j]? = some x → w'.cell? ⟨w.heap.size, j, none⟩ = some x := by
    intro j x hx
    have hj : j < 5 := (List.getElem?_eq_some_iff.1 hx).1
    rcases (show j = 0 ∨ j = 1 ∨ j = 2 ∨ j = 3 ∨ j = 4 by omega) with rfl | rfl | rfl | rfl | rfl <;> simp at hx <;> subst hx
    · exact h.i0
    · exact h.i1
    · exact h.i2
    · exact h.i3
    · exact h.i4
  have hnew : ∀ j x, ([u1, .int .u16 I'.entry, .int .u16 I'.vector, u2, u3] : List Value)[j]? = some x → (w'.setCell ⟨w.heap.size, k, none⟩ u).cell? ⟨w.heap.size, j, none⟩ = some x := by
    intro j x hx
    rw [← hu] at hx
    by_cases e : k = j
    · subst e
      rw [List.getElem?_set_self (by simpa using hk)] at hx
      cases hx
      obtain ⟨y, hy⟩ := at_some ([v1, .int .u16 I.entry, .int .u16 I.vector, v2, v3] : List Value) k (by simpa using hk)
      exact World.cell?_setCell_same _ _ _ (hold k y hy)
    · rw [List.getElem?_set_ne e] at hx
      exact (World.cell?_setCell_other _ _ _ _ (addr_ne _ k j e)).trans (hold j x hx)
  refine ⟨hnew 0 _ rfl, hnew 1 _ rfl, hnew 2 _ rfl, hnew 3 _ rfl, hnew 4 _ rfl, fun j => (frozen_set' _ _ _ _).trans (h.fi j), (hc 1 0 (by decide)).trans h.q0, (hc 1 1 (by decide)).trans h.q1, (hc 1 2 (by decide)).trans h.q2, fun j hj => ?_, fun j => (frozen_set' _ _ _ _).trans (h.ft j), o1, o2, o3, hs, ho, hr, he, hv, by simp; exact h.size, h.below.setCell (Nat.le_refl _) _⟩
  obtain ⟨v, hv⟩ := h.t j hj
  exact ⟨v, (hc 2 j (by decide)).trans hv⟩
/-- What Turned hands back. -/
def TurnedPost (I : Img) (w : World) (e : Ending) (w' : World) : Prop :=
  ∃ (J : Img) (p1 : Option Addr) (c1 : Nat) (p2 : Option Addr) (c2 : Nat) (p3 : Option Addr) (c3 : Nat), e = .returned (imgV p1 c1 p2 c2 p3 c3 J) ∧ ImgAt w' p1 p2 p3 J ∧ (∀ s ∈ J.banks, s.size ≤ 4096) ∧ J.banks.length ≤ I.banks.length ∧ J.data.length ≤ I.data.length ∧ J.relocs.length ≤ I.relocs.length + 1 ∧ Below w.heap.size w w'
/-- The end: the image is handed back through the third block. -/
theorem TMem.out {w w' : World} {I J : Img} {v1 v2 v3 : Value} {a b c : Int} (h : TMem w w' J v1 v2 v3 a b c) (l1 : J.banks.length ≤ I.banks.length) (l2 : J.data.length ≤ I.data.length) (l3 : J.relocs.length ≤ I.relocs.length + 1) (b1 : I.banks.length ≤ 100000) (b2 : I.data.length ≤ 100000) (b3 : I.relocs.length ≤ 100000) :
    ∃ WF : World, WF = ((((w'.setCell ⟨w.heap.size + 2, 0, none⟩ v1).setCell ⟨w.heap.size + 2, 1, none⟩ (.int .u16 J.entry)).setCell ⟨w.heap.size + 2, 2, none⟩ (.int .u16 J.vector)).setCell ⟨w.heap.size + 2, 3, none⟩ v2).setCell ⟨w.heap.size + 2, 4, none⟩ v3 ∧
      WF.cell? ⟨w.heap.size + 2, 0, none⟩ = some v1 ∧ WF.cell? ⟨w.heap.size + 2, 1, none⟩ = some (.int .u16 J.entry) ∧ WF.cell? ⟨w.heap.size + 2, 2, none⟩ = some (.int .u16 J.vector) ∧ WF.cell? ⟨w.heap.size + 2, 3, none⟩ = some v2 ∧ WF.cell? ⟨w.heap.size + 2, 4, none⟩ = some v3 ∧
      TurnedPost I w (.returned (.agg #[v1, .int .u16 J.entry, .int .u16 J.vector, v2, v3])) WF := by
  obtain ⟨u0, t0⟩ := h.t 0 (by decide)
  obtain ⟨u1, t1⟩ := h.t 1 (by decide)
  obtain ⟨u2, t2⟩ := h.t 2 (by decide)
  obtain ⟨u3, t3⟩ := h.t 3 (by decide)
  obtain ⟨u4, t4⟩ := h.t 4 (by decide)
  obtain ⟨x0, x1, x2, x3, x4⟩ := set5 w' (w.heap.size + 2) v1 (.int .u16 J.entry) (.int .u16 J.vector) v2 v3 _ _ _ _ _ t0 t1 t2 t3 t4
  have hlt : w.heap.size + 2 < w.heap.size + 3 := by omega
  have hN : w.heap.size ≤ w.heap.size + 2 := by omega
  have k1 := own_set (j := 4) (u := v3) (own_set (j := 3) (u := v2) (own_set (j := 2) (u := .int .u16 J.vector) (own_set (j := 1) (u := .int .u16 J.entry) (own_set (j := 0) (u := v1) h.o1 hlt) hlt) hlt) hlt) hlt
  have k2 := own_set (j := 4) (u := v3) (own_set (j := 3) (u := v2) (own_set (j := 2) (u := .int .u16 J.vector) (own_set (j := 1) (u := .int .u16 J.entry) (own_set (j := 0) (u := v1) h.o2 hlt) hlt) hlt) hlt) hlt
  have k3 := own_set (j := 4) (u := v3) (own_set (j := 3) (u := v2) (own_set (j := 2) (u := .int .u16 J.vector) (own_set (j := 1) (u := .int .u16 J.entry) (own_set (j := 0) (u := v1) h.o3 hlt) hlt) hlt) hlt) hlt
  have kb := ((((h.below.setCell (p := ⟨w.heap.size + 2, 0, none⟩) hN v1).setCell (p := ⟨w.heap.size + 2, 1, none⟩) hN (.int .u16 J.entry)).setCell (p := ⟨w.heap.size + 2, 2, none⟩) hN (.int .u16 J.vector)).setCell (p := ⟨w.heap.size + 2, 3, none⟩) hN v2).setCell (p := ⟨w.heap.size + 2, 4, none⟩) hN v3
  refine ⟨_, rfl, x0, x1, x2, x3, x4, ?_⟩
  have hO : Owned (w.heap.size + 3) _ J v1 v2 v3 := ⟨k1, k2, k3⟩
  obtain ⟨p1, c1, p2, c2, p3, c3, rfl, rfl, rfl, hI⟩ := hO.img (fun s hs => Nat.le_trans (h.hs s hs) (by decide)) h.ho h.hr h.he h.hv (by unfold maxLen; omega) (by unfold maxLen; omega) (by unfold maxLen; omega)
  exact ⟨J, p1, c1, p2, c2, p3, c3, rfl, hI, h.hs, l1, l2, l3, kb⟩
theorem tmem_start (p1 : Option Addr) (c1 : Nat) (p2 : Option Addr) (c2 : Nat) (p3 : Option Addr) (c3 : Nat) (I : Img) (x y z : Int) (w w1 : World) (v1 v2 v3 : Value) (hB : Below (((w.alloc (Obj.cells #[.slice p1 I.banks.length c1, .int .u16 I.entry, .int .u16 I.vector, .slice p2 I.data.length c2, .slice p3 I.relocs.length c3] 30)).alloc (Obj.cells #[.int .i64 x, .int .i64 y, .int .i64 z] 23)).alloc (Obj.cells #[Value.slice none 0 0, Value.int IntKind.u16 0, Value.int IntKind.u16 0, Value.slice none 0 0, Value.slice none 0 0] 30)).heap.size (((w.alloc (Obj.cells #[.slice p1 I.banks.length c1, .int .u16 I.entry, .int .u16 I.vector, .slice p2 I.data.length c2, .slice p3 I.relocs.length c3] 30)).alloc (Obj.cells #[.int .i64 x, .int .i64 y, .int .i64 z] 23)).alloc (Obj.cells #[Value.slice none 0 0, Value.int IntKind.u16 0, Value.int IntKind.u16 0, Value.slice none 0 0, Value.slice none 0 0] 30)) w1) (hO : Owned ((((w.alloc (Obj.cells #[.slice p1 I.banks.length c1, .int .u16 I.entry, .int .u16 I.vector, .slice p2 I.data.length c2, .slice p3 I.relocs.length c3] 30)).alloc (Obj.cells #[.int .i64 x, .int .i64 y, .int .i64 z] 23)).alloc (Obj.cells #[Value.slice none 0 0, Value.int IntKind.u16 0, Value.int IntKind.u16 0, Value.slice none 0 0, Value.slice none 0 0] 30)).heap.size + 2) w1 I v1 v2 v3)
    (hs : ∀ s ∈ I.banks, s.size ≤ 4096) (ho : ∀ o ∈ I.data, o.ok) (hr : ∀ r ∈ I.relocs, r.ok) (he : OkU16 I.entry) (hv : OkU16 I.vector) :
    w1.cell? ⟨w.heap.size, 0, none⟩ = some (.slice p1 I.banks.length c1) ∧ w1.cell? ⟨w.heap.size, 1, none⟩ = some (.int .u16 I.entry) ∧ w1.cell? ⟨w.heap.size, 2, none⟩ = some (.int .u16 I.vector) ∧ w1.cell? ⟨w.heap.size, 3, none⟩ = some (.slice p2 I.data.length c2) ∧ w1.cell? ⟨w.heap.size, 4, none⟩ = some (.slice p3 I.relocs.length c3) ∧
    (∀ k, w1.frozen? ⟨w.heap.size, k, none⟩ = false) ∧
    TMem w (((((w1.setCell ⟨w.heap.size, 0, none⟩ v1).setCell ⟨w.heap.size, 1, none⟩ (.int .u16 I.entry)).setCell ⟨w.heap.size, 2, none⟩ (.int .u16 I.vector)).setCell ⟨w.heap.size, 3, none⟩ v2).setCell ⟨w.heap.size, 4, none⟩ v3) I v1 v2 v3 x y z := by
  have hz : (((w.alloc (Obj.cells #[.slice p1 I.banks.length c1, .int .u16 I.entry, .int .u16 I.vector, .slice p2 I.data.length c2, .slice p3 I.relocs.length c3] 30)).alloc (Obj.cells #[.int .i64 x, .int .i64 y, .int .i64 z] 23)).alloc (Obj.cells #[Value.slice none 0 0, Value.int IntKind.u16 0, Value.int IntKind.u16 0, Value.slice none 0 0, Value.slice none 0 0] 30)).heap.size = w.heap.size + 3 := by simp
  have hb0 := below_next (below_alloc (below_alloc (below1 w (Obj.cells #[.slice p1 I.banks.length c1, .int .u16 I.entry, .int .u16 I.vector, .slice p2 I.data.length c2, .slice p3 I.relocs.length c3] 30)) (Obj.cells #[.int .i64 x, .int .i64 y, .int .i64 z] 23)) (Obj.cells #[Value.slice none 0 0, Value.int IntKind.u16 0, Value.int IntKind.u16 0, Value.slice none 0 0, Value.slice none 0 0] 30)) hB
  have hsz := hB.size
  rw [hz] at hO hsz
  have g0 : w.heap.size < (((w.alloc (Obj.cells #[.slice p1 I.banks.length c1, .int .u16 I.entry, .int .u16 I.vector, .slice p2 I.data.length c2, .slice p3 I.relocs.length c3] 30)).alloc (Obj.cells #[.int .i64 x, .int .i64 y, .int .i64 z] 23)).alloc (Obj.cells #[Value.slice none 0 0, Value.int IntKind.u16 0, Value.int IntKind.u16 0, Value.slice none 0 0, Value.slice none 0 0] 30)).heap.size := by rw [hz]; omega
  have g1 : w.heap.size + 1 < (((w.alloc (Obj.cells #[.slice p1 I.banks.length c1, .int .u16 I.entry, .int .u16 I.vector, .slice p2 I.data.length c2, .slice p3 I.relocs.length c3] 30)).alloc (Obj.cells #[.int .i64 x, .int .i64 y, .int .i64 z] 23)).alloc (Obj.cells #[Value.slice none 0 0, Value.int IntKind.u16 0, Value.int IntKind.u16 0, Value.slice none 0 0, Value.slice none 0 0] 30)).heap.size := by rw [hz]; omega
  have g2 : w.heap.size + 2 < (((w.alloc (Obj.cells #[.slice p1 I.banks.length c1, .int .u16 I.entry, .int .u16 I.vector, .slice p2 I.data.length c2, .slice p3 I.relocs.length c3] 30)).alloc (Obj.cells #[.int .i64 x, .int .i64 y, .int .i64 z] 23)).alloc (Obj.cells #[Value.slice none 0 0, Value.int IntKind.u16 0, Value.int IntKind.u16 0, Value.slice none 0 0, Value.slice none 0 0] 30)).heap.size := by rw [hz]; omega
  have n0 := (hB.cell (p := ⟨w.heap.size, 0, none⟩) g0).trans (show _ = some (Value.slice p1 I.banks.length c1) by simp [go_sem])
  have n1 := (hB.cell (p := ⟨w.heap.size, 1, none⟩) g0).trans (show _ = some (Value.int .u16 I.entry) by simp [go_sem])
  have n2 := (hB.cell (p := ⟨w.heap.size, 2, none⟩) g0).trans (show _ = some (Value.int .u16 I.vector) by simp [go_sem])
  have n3 := (hB.cell (p := ⟨w.heap.size, 3, none⟩) g0).trans (show _ = some (Value.slice p2 I.data.length c2) by simp [go_sem])
  have n4 := (hB.cell (p := ⟨w.heap.size, 4, none⟩) g0).trans (show _ = some (Value.slice p3 I.relocs.length c3) by simp [go_sem])
  have fz : ∀ k, w1.frozen? ⟨w.heap.size, k, none⟩ = false := fun k => (hB.frozen (p := ⟨w.heap.size, k, none⟩) g0).trans (by simp [go_sem])
  refine ⟨n0, n1, n2, n3, n4, fz, ?_⟩
  have m0 := (hB.cell (p := ⟨w.heap.size + 1, 0, none⟩) g1).trans (show _ = some (Value.int .i64 x) by simp [go_sem])
  have m1 := (hB.cell (p := ⟨w.heap.size + 1, 1, none⟩) g1).trans (show _ = some (Value.int .i64 y) by simp [go_sem])
  have m2 := (hB.cell (p := ⟨w.heap.size + 1, 2, none⟩) g1).trans (show _ = some (Value.int .i64 z) by simp [go_sem])
  have hT : ∀ k, k < 5 → ∃ v, w1.cell? ⟨w.heap.size + 2, k, none⟩ = some v := by
    intro k hk
    have e : w1.cell? ⟨w.heap.size + 2, k, none⟩ = _ := hB.cell (p := ⟨w.heap.size + 2, k, none⟩) g2
    rcases (show k = 0 ∨ k = 1 ∨ k = 2 ∨ k = 3 ∨ k = 4 by omega) with rfl | rfl | rfl | rfl | rfl <;> exact ⟨_, e.trans (by simp [go_sem]; rfl)⟩
  have fT : ∀ k, w1.frozen? ⟨w.heap.size + 2, k, none⟩ = false := fun k => (hB.frozen (p := ⟨w.heap.size + 2, k, none⟩) g2).trans (by simp [go_sem])
  obtain ⟨x0, x1, x2, x3, x4⟩ := set5 w1 w.heap.size v1 (.int .u16 I.entry) (.int .u16 I.vector) v2 v3 _ _ _ _ _ n0 n1 n2 n3 n4
  have hc : ∀ (W : World) (j : Nat) (u : Value) (m i : Nat), m ≠ 0 → (W.setCell ⟨w.heap.size, j, none⟩ u).cell? ⟨w.heap.size + m, i, none⟩ = W.cell? ⟨w.heap.size + m, i, none⟩ := fun W j u m i hm => World.cell?_setCell_other _ _ _ _ (fun e => by injection e with e1; omega)
  have hlt : w.heap.size < w.heap.size + 3 := by omega
  have hN : w.heap.size + 3 ≤ w.heap.size + 3 + 2 := by omega
  have k1 := own_set (j := 4) (u := v3) (own_set (j := 3) (u := v2) (own_set (j := 2) (u := .int .u16 I.vector) (own_set (j := 1) (u := .int .u16 I.entry) (own_set (j := 0) (u := v1) (own_mono hO.o1 hN) hlt) hlt) hlt) hlt) hlt
  have k2 := own_set (j := 4) (u := v3) (own_set (j := 3) (u := v2) (own_set (j := 2) (u := .int .u16 I.vector) (own_set (j := 1) (u := .int .u16 I.entry) (own_set (j := 0) (u := v1) (own_mono hO.o2 hN) hlt) hlt) hlt) hlt) hlt
  have k3 := own_set (j := 4) (u := v3) (own_set (j := 3) (u := v2) (own_set (j := 2) (u := .int .u16 I.vector) (own_set (j := 1) (u := .int .u16 I.entry) (own_set (j := 0) (u := v1) (own_mono hO.o3 hN) hlt) hlt) hlt) hlt) hlt
  have hn : w.heap.size ≤ w.heap.size := Nat.le_refl _
  refine ⟨x0, x1, x2, x3, x4, fun k => ?_, ?_, ?_, ?_, fun k hk => ?_, fun k => ?_, k1, k2, k3, hs, ho, hr, he, hv, by simp; omega, ((((hb0.setCell (p := ⟨w.heap.size, 0, none⟩) hn v1).setCell (p := ⟨w.heap.size, 1, none⟩) hn (.int .u16 I.entry)).setCell (p := ⟨w.heap.size, 2, none⟩) hn (.int .u16 I.vector)).setCell (p := ⟨w.heap.size, 3, none⟩) hn v2).setCell (p := ⟨w.heap.size, 4, none⟩) hn v3⟩
  · simp only [frozen_set']; exact fz k
  · rw [hc _ _ _ 1 0 (by decide), hc _ _ _ 1 0 (by decide), hc _ _ _ 1 0 (by decide), hc _ _ _ 1 0 (by decide), hc _ _ _ 1 0 (by decide)]; exact m0
  · rw [hc _ _ _ 1 1 (by decide), hc _ _ _ 1 1 (by decide), hc _ _ _ 1 1 (by decide), hc _ _ _ 1 1 (by decide), hc _ _ _ 1 1 (by decide)]; exact m1
  · rw [hc _ _ _ 1 2 (by decide), hc _ _ _ 1 2 (by decide), hc _ _ _ 1 2 (by decide), hc _ _ _ 1 2 (by decide), hc _ _ _ 1 2 (by decide)]; exact m2
  · obtain ⟨v, hv'⟩ := hT k hk
    exact ⟨v, by rw [hc _ _ _ 2 k (by decide), hc _ _ _ 2 k (by decide), hc _ _ _ 2 k (by decide), hc _ _ _ 2 k (by decide), hc _ _ _ 2 k (by decide)]; exact hv'⟩
  · simp only [frozen_set']; exact fT k
theorem own_store {w : World} {base e size n g c : Nat} {u : Value} {xs : List Value} (h : w.ownsRow base e size (.slice (some ⟨g, 0, none⟩) n c) n xs) (j : Nat) (hj : j < n * size) : (w.setCell ⟨g, j, none⟩ u).ownsRow base e size (.slice (some ⟨g, 0, none⟩) n c) n (xs.set j u) := by
  refine ⟨by rw [List.length_set]; exact h.1, ?_⟩
  rcases h.2 with ⟨hv, _⟩ | ⟨g', cap, cur, hv, hb, hg, hn, hc, hz, ht⟩
  · cases hv
  · cases hv
    refine .inr ⟨g, c, cur.setIfInBounds j u, rfl, hb, ?_, hn, hc, by simpa using hz, ?_⟩
    · simp [World.setCell, Array.getElem?_modify, hg]
    · rw [Array.toList_setIfInBounds, List.take_set, ht]
theorem own_off {w : World} {base e1 s1 n1 base2 e2 s2 n2 g j c : Nat} {v1 v2 u : Value} {x1 x2 : List Value} (h1 : w.ownsRow base e1 s1 v1 n1 x1) (h2 : w.ownsRow base2 e2 s2 v2 n2 x2) (hne : e1 ≠ e2) (hv : v2 = .slice (some ⟨g, 0, none⟩) n2 c) : (w.setCell ⟨g, j, none⟩ u).ownsRow base e1 s1 v1 n1 x1 := by
  subst hv
  refine h1.kept (row := some g) ⟨rfl, rfl, rfl, by simp, fun k hk hne => Below.heap_setCell _ _ _ _ (fun e => hne (by rw [e]))⟩ ?_
  have := own_apart h1 h2 hne
  simpa [Value.ownBlock] using this
theorem flat_set {α : Type} (f : α → List Value) (c : Nat) (l : List α) (hc : ∀ x, (f x).length = c) : ∀ (k j : Nat) (o o' : α) (u : Value), l[k]? = some o → j < c → f o' = (f o).set j u → (l.flatMap f).set (k * c + j) u = (l.set k o').flatMap f := by
  induction l with
  | nil => intro k j o o' u h _ _; simp at h
  | cons y l ih =>
    intro k j o o' u h hj hu
    cases k with
    | zero =>
      simp at h; subst h
      rw [Nat.zero_mul, Nat.zero_add, List.flatMap_cons, List.set_append_left _ _ (by rw [hc]; exact hj), List.set_cons_zero, List.flatMap_cons, hu]
    | succ k =>
      simp at h
      rw [List.flatMap_cons, List.set_append_right _ _ (by rw [hc, Nat.succ_mul]; omega), List.set_cons_succ, List.flatMap_cons, ← ih k j o o' u h hj hu, hc]
      congr 2
      rw [Nat.succ_mul]; omega
theorem mem_set {α : Type} {l : List α} {k : Nat} {a x : α} {P : α → Prop} (h : x ∈ l.set k a) (hP : ∀ y ∈ l, P y) (ha : P a) : P x := by
  rcases List.mem_or_eq_of_mem_set h with h | h
  · exact hP x h
  · rw [h]; exact ha
theorem own_cap {w : World} {base e size n c : Nat} {p : Option Addr} {xs : List Value} (h : w.ownsRow base e size (.slice p n c) n xs) : n ≤ c := by
  rcases h.2 with ⟨hv, hn⟩ | ⟨g, cap, cur, hv, _, _, hn, _⟩
  · omega
  · cases hv; exact hn
theorem own_shrink {w : World} {base e size n m c : Nat} {p : Option Addr} {xs : List Value} (h : w.ownsRow base e size (.slice p n c) n xs) (hm : m ≤ n) (hn : 0 < n) : w.ownsRow base e size (.slice p m c) m (xs.take (m * size)) := by
  have hmn : m * size ≤ n * size := Nat.mul_le_mul_right _ hm
  refine ⟨by rw [List.length_take, h.1]; omega, ?_⟩
  rcases h.2 with ⟨hv, h0⟩ | ⟨g, cap, cur, hv, hb, hg, hn2, hc, hz, ht⟩
  · omega
  · cases hv
    refine .inr ⟨g, c, cur, rfl, hb, hg, Nat.le_trans hm hn2, hc, hz, ?_⟩
    rw [← ht, List.take_take, Nat.min_eq_left hmn]
theorem TMem.setObj {w w' : World} {I : Img} {v1 v2 v3 : Value} {a b c : Int} (h : TMem w w' I v1 v2 v3 a b c) (k j g cp : Nat) (o o' : ObjI) (u : Value) (hv : v2 = .slice (some ⟨g, 0, none⟩) I.data.length cp) (hk : I.data[k]? = some o) (hj : j < 3) (hu : o'.cells = o.cells.set j u) (hok : o'.ok) :
    TMem w (w'.setCell ⟨g, k * 3 + j, none⟩ u) { I with data := I.data.set k o' } v1 v2 v3 a b c := by
  subst hv
  have hkl := (List.getElem?_eq_some_iff.1 hk).1
  have hg : w.heap.size + 3 ≤ g := (h.o2.lt g rfl).1
  have hst := own_store (u := u) h.o2 (k * 3 + j) (by have : (k + 1) * 3 ≤ I.data.length * 3 := Nat.mul_le_mul_right _ hkl; omega)
  rw [flat_set ObjI.cells 3 I.data (fun _ => rfl) k j o o' u hk hj hu] at hst
  refine h.far (I' := { I with data := I.data.set k o' }) ((Below.refl _ _).setCell hg _) (own_off h.o1 h.o2 (by decide) rfl) (by simpa using hst) (own_off h.o3 h.o2 (by decide) rfl) h.hs (fun x hx => mem_set hx h.ho hok) h.hr rfl rfl
theorem TMem.setRel {w w' : World} {I : Img} {v1 v2 v3 : Value} {a b c : Int} (h : TMem w w' I v1 v2 v3 a b c) (k j g cp : Nat) (o o' : RelI) (u : Value) (hv : v3 = .slice (some ⟨g, 0, none⟩) I.relocs.length cp) (hk : I.relocs[k]? = some o) (hj : j < 2) (hu : o'.cells = o.cells.set j u) (hok : o'.ok) :
    TMem w (w'.setCell ⟨g, k * 2 + j, none⟩ u) { I with relocs := I.relocs.set k o' } v1 v2 v3 a b c := by
  subst hv
  have hkl := (List.getElem?_eq_some_iff.1 hk).1
  have hg : w.heap.size + 3 ≤ g := (h.o3.lt g rfl).1
  have hst := own_store (u := u) h.o3 (k * 2 + j) (by have : (k + 1) * 2 ≤ I.relocs.length * 2 := Nat.mul_le_mul_right _ hkl; omega)
  rw [flat_set RelI.cells 2 I.relocs (fun _ => rfl) k j o o' u hk hj hu] at hst
  refine h.far (I' := { I with relocs := I.relocs.set k o' }) ((Below.refl _ _).setCell hg _) (own_off h.o1 h.o3 (by decide) rfl) (own_off h.o2 h.o3 (by decide) rfl) (by simpa using hst) h.hs h.ho (fun x hx => mem_set hx h.hr hok) rfl rfl
theorem TMem.setStr {w w' : World} {I : Img} {v1 v2 v3 : Value} {a b c : Int} (h : TMem w w' I v1 v2 v3 a b c) (k g cp : Nat) (s' : ByteArray) (hv : v1 = .slice (some ⟨g, 0, none⟩) I.banks.length cp) (hk : k < I.banks.length) (hok : s'.size ≤ 4096) :
    TMem w (w'.setCell ⟨g, k, none⟩ (.string s')) { I with banks := I.banks.set k s' } v1 v2 v3 a b c := by
  subst hv
  have hg : w.heap.size + 3 ≤ g := (h.o1.lt g rfl).1
  have hst := own_store (u := .string s') h.o1 k (by omega)
  have e : (I.banks.map Value.string).set k (.string s') = (I.banks.set k s').map Value.string := by rw [List.map_set]
  rw [e] at hst
  exact h.far (I' := { I with banks := I.banks.set k s' }) ((Below.refl _ _).setCell hg _) (by simpa using hst) (own_off h.o2 h.o1 (by decide) rfl) (own_off h.o3 h.o1 (by decide) rfl) (fun x hx => mem_set (P := fun s : ByteArray => s.size ≤ 4096) hx h.hs hok) h.ho h.hr rfl rfl
theorem own_addr {w : World} {base e size n c : Nat} {p : Option Addr} {xs : List Value} (h : w.ownsRow base e size (.slice p n c) n xs) (hn : 0 < n) :
    ∃ g, p = some ⟨g, 0, none⟩ ∧ g < w.heap.size ∧ base ≤ g ∧ (∀ j u, xs[j]? = some u → w.cell? ⟨g, j, none⟩ = some u) ∧ ∀ j, w.frozen? ⟨g, j, none⟩ = false := by
  rcases h.2 with ⟨hv, h0⟩ | ⟨g, cap, cur, hv, hb, hg, _⟩
  · omega
  · cases hv
    refine ⟨g, rfl, (Array.getElem?_eq_some_iff.1 hg).1, hb, fun j u hu => ?_, fun j => by simp [World.frozen?, hg]⟩
    have := h.cells (g := g) rfl j u hu
    rwa [show (⟨g, 0, none⟩ : Addr).add j = ⟨g, j, none⟩ from by unfold Addr.add; split <;> simp_all] at this
end Go.Proofs.Ytgdiaaoekkdibaa
