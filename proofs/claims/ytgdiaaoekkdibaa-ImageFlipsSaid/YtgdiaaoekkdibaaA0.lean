/- An image that a call makes, list by list: what it owns in memory. -/
import Derived.Test.YtgdiaaoekkdibaaB1
import Derived.Test.YtgdiaaoekkdibaaI15
namespace Go.Proofs.Ytgdiaaoekkdibaa
set_option linter.unusedVariables false
set_option linter.unusedSimpArgs false
open Go.RowKit
theorem infoObj : (Try.prog.info? 39).map (fun i => (i.zero, i.size, i.bytes)) = some (some (.agg #[.int .i64 0, .int .u16 0, .int .u16 0]), 3, 16) := by kernel_rfl
theorem infoRel : (Try.prog.info? 41).map (fun i => (i.zero, i.size, i.bytes)) = some (some (.agg #[.int .i64 0, .int .u16 0]), 2, 16) := by kernel_rfl
theorem infoStr : (Try.prog.info? 9).map (fun i => (i.zero, i.size, i.bytes)) = some (some (.string ByteArray.empty), 1, 16) := by kernel_rfl
theorem grown_below {w w' : World} (h : Below w.heap.size w w') (row : Option Nat) : w.grownBy w' row := ⟨h.os, h.tape, h.output, h.size, fun k hk _ => h.block k hk⟩
theorem own_next {w w' : World} {base e size n : Nat} {v : Value} {xs : List Value} (h : w.ownsRow base e size v n xs) (hb : Below w.heap.size w w') : w'.ownsRow base e size v n xs :=
  h.kept (grown_below hb none) (by cases v.ownBlock <;> simp)
/-- Rows of two element types lie in two blocks. -/
theorem own_apart {w : World} {b1 b2 e1 e2 s1 s2 n1 n2 : Nat} {v1 v2 : Value} {x1 x2 : List Value} (h1 : w.ownsRow b1 e1 s1 v1 n1 x1) (h2 : w.ownsRow b2 e2 s2 v2 n2 x2) (hne : e1 ≠ e2) : v1.ownBlock = none ∨ v1.ownBlock ≠ v2.ownBlock := by
  rcases h1.2 with ⟨rfl, _⟩ | ⟨g1, c1, cur1, rfl, _, k1, _⟩
  · exact .inl rfl
  · refine .inr fun e => ?_
    rcases h2.2 with ⟨rfl, _⟩ | ⟨g2, c2, cur2, rfl, _, k2, _⟩
    · simp [Value.ownBlock] at e
    · simp only [Value.ownBlock, Option.some.injEq] at e
      subst e
      rw [k1] at k2
      simp only [Option.some.injEq, Obj.cells.injEq] at k2
      exact hne k2.2.1
structure Mk (B N : Nat) (w0 w : World) (I : Img) (v1 v2 v3 : Value) : Prop where
  i0 : w.cell? ⟨N, 0, none⟩ = some v1
  i1 : w.cell? ⟨N, 1, none⟩ = some (.int .u16 I.entry)
  i2 : w.cell? ⟨N, 2, none⟩ = some (.int .u16 I.vector)
  i3 : w.cell? ⟨N, 3, none⟩ = some v2
  i4 : w.cell? ⟨N, 4, none⟩ = some v3
  f0 : w.frozen? ⟨N, 0, none⟩ = false
  f3 : w.frozen? ⟨N, 3, none⟩ = false
  f4 : w.frozen? ⟨N, 4, none⟩ = false
  o1 : w.ownsRow (N + 1) 9 1 v1 I.banks.length (I.banks.map Value.string)
  o2 : w.ownsRow (N + 1) 39 3 v2 I.data.length (I.data.flatMap ObjI.cells)
  o3 : w.ownsRow (N + 1) 41 2 v3 I.relocs.length (I.relocs.flatMap RelI.cells)
  hN : B ≤ N
  hw : N < w.heap.size
  below : Below B w0 w
theorem Mk.next {B N : Nat} {w0 w w' : World} {I : Img} {v1 v2 v3 : Value} (h : Mk B N w0 w I v1 v2 v3) (hb : Below w.heap.size w w') : Mk B N w0 w' I v1 v2 v3 :=
  ⟨(hb.cell h.hw).trans h.i0, (hb.cell h.hw).trans h.i1, (hb.cell h.hw).trans h.i2, (hb.cell h.hw).trans h.i3, (hb.cell h.hw).trans h.i4, (hb.frozen h.hw).trans h.f0, (hb.frozen h.hw).trans h.f3, (hb.frozen h.hw).trans h.f4,
    own_next h.o1 hb, own_next h.o2 hb, own_next h.o3 hb, h.hN, Nat.lt_of_lt_of_le h.hw hb.size, h.below.trans (hb.mono (Nat.le_trans h.hN (Nat.le_of_lt h.hw)))⟩
theorem own_set {w : World} {base e size n N j : Nat} {v u : Value} {xs : List Value} (h : w.ownsRow base e size v n xs) (hN : N < base) : (w.setCell ⟨N, j, none⟩ u).ownsRow base e size v n xs := by
  refine h.kept (row := some N) ⟨rfl, rfl, rfl, by simp, fun k hk hne => Below.heap_setCell _ _ _ _ (fun e => hne (by rw [e]))⟩ ?_
  cases hv : v.ownBlock with
  | none => exact .inl rfl
  | some k => exact .inr (fun e => by have := (h.lt k hv).1; simp only [Option.some.injEq] at e; omega)
theorem frozen_set' (W : World) (p a : Addr) (v : Value) : (W.setCell p v).frozen? a = W.frozen? a := by simp
theorem Mk.push1 {B N : Nat} {w0 w w1 : World} {I : Img} {v1 v2 v3 v' : Value} (h : Mk B N w0 w I v1 v2 v3) (o : ByteArray) (hown : w1.ownsRow (N + 1) 9 1 v' (I.banks.length + 1) (I.banks.map Value.string ++ [Value.string o])) (hg : w.grownBy w1 v1.ownBlock) :
    Mk B N w0 (w1.setCell ⟨N, 0, none⟩ v') { I with banks := I.banks ++ [o] } v' v2 v3 := by
  have hb : Below (N + 1) w w1 := (Below.refl (N + 1) w).grown hg h.hw (fun k e => (h.o1.lt k e).1)
  have hz := hg.size
  exact ⟨World.cell?_setCell_same _ _ _ ((hb.cell (p := ⟨N, 0, none⟩) (Nat.lt_succ_self N)).trans h.i0),
    (World.cell?_setCell_other _ _ _ _ (addr_ne N 0 1 (by decide))).trans ((hb.cell (p := ⟨N, 1, none⟩) (Nat.lt_succ_self N)).trans h.i1),
    (World.cell?_setCell_other _ _ _ _ (addr_ne N 0 2 (by decide))).trans ((hb.cell (p := ⟨N, 2, none⟩) (Nat.lt_succ_self N)).trans h.i2),
    (World.cell?_setCell_other _ _ _ _ (addr_ne N 0 3 (by decide))).trans ((hb.cell (p := ⟨N, 3, none⟩) (Nat.lt_succ_self N)).trans h.i3),
    (World.cell?_setCell_other _ _ _ _ (addr_ne N 0 4 (by decide))).trans ((hb.cell (p := ⟨N, 4, none⟩) (Nat.lt_succ_self N)).trans h.i4),
    (frozen_set' _ _ _ _).trans ((hb.frozen (p := ⟨N, 0, none⟩) (Nat.lt_succ_self N)).trans h.f0), (frozen_set' _ _ _ _).trans ((hb.frozen (p := ⟨N, 3, none⟩) (Nat.lt_succ_self N)).trans h.f3), (frozen_set' _ _ _ _).trans ((hb.frozen (p := ⟨N, 4, none⟩) (Nat.lt_succ_self N)).trans h.f4),
    by simpa using own_set hown (Nat.lt_succ_self N),
    own_set (h.o2.kept hg (own_apart h.o2 h.o1 (by decide))) (Nat.lt_succ_self N),
    own_set (h.o3.kept hg (own_apart h.o3 h.o1 (by decide))) (Nat.lt_succ_self N),
    h.hN, by have := h.hw; simp; omega, (h.below.trans (hb.mono (Nat.le_succ_of_le h.hN))).setCell h.hN _⟩
theorem Mk.push2 {B N : Nat} {w0 w w1 : World} {I : Img} {v1 v2 v3 v' : Value} (h : Mk B N w0 w I v1 v2 v3) (o : ObjI) (hown : w1.ownsRow (N + 1) 39 3 v' (I.data.length + 1) (I.data.flatMap ObjI.cells ++ o.cells)) (hg : w.grownBy w1 v2.ownBlock) :
    Mk B N w0 (w1.setCell ⟨N, 3, none⟩ v') { I with data := I.data ++ [o] } v1 v' v3 := by
  have hb : Below (N + 1) w w1 := (Below.refl (N + 1) w).grown hg h.hw (fun k e => (h.o2.lt k e).1)
  have hz := hg.size
  exact ⟨(World.cell?_setCell_other _ _ _ _ (addr_ne N 3 0 (by decide))).trans ((hb.cell (p := ⟨N, 0, none⟩) (Nat.lt_succ_self N)).trans h.i0),
    (World.cell?_setCell_other _ _ _ _ (addr_ne N 3 1 (by decide))).trans ((hb.cell (p := ⟨N, 1, none⟩) (Nat.lt_succ_self N)).trans h.i1),
    (World.cell?_setCell_other _ _ _ _ (addr_ne N 3 2 (by decide))).trans ((hb.cell (p := ⟨N, 2, none⟩) (Nat.lt_succ_self N)).trans h.i2),
    World.cell?_setCell_same _ _ _ ((hb.cell (p := ⟨N, 3, none⟩) (Nat.lt_succ_self N)).trans h.i3),
    (World.cell?_setCell_other _ _ _ _ (addr_ne N 3 4 (by decide))).trans ((hb.cell (p := ⟨N, 4, none⟩) (Nat.lt_succ_self N)).trans h.i4),
    (frozen_set' _ _ _ _).trans ((hb.frozen (p := ⟨N, 0, none⟩) (Nat.lt_succ_self N)).trans h.f0), (frozen_set' _ _ _ _).trans ((hb.frozen (p := ⟨N, 3, none⟩) (Nat.lt_succ_self N)).trans h.f3), (frozen_set' _ _ _ _).trans ((hb.frozen (p := ⟨N, 4, none⟩) (Nat.lt_succ_self N)).trans h.f4),
    own_set (h.o1.kept hg (own_apart h.o1 h.o2 (by decide))) (Nat.lt_succ_self N),
    by simpa using own_set hown (Nat.lt_succ_self N),
    own_set (h.o3.kept hg (own_apart h.o3 h.o2 (by decide))) (Nat.lt_succ_self N),
    h.hN, by have := h.hw; simp; omega, (h.below.trans (hb.mono (Nat.le_succ_of_le h.hN))).setCell h.hN _⟩
theorem Mk.push3 {B N : Nat} {w0 w w1 : World} {I : Img} {v1 v2 v3 v' : Value} (h : Mk B N w0 w I v1 v2 v3) (o : RelI) (hown : w1.ownsRow (N + 1) 41 2 v' (I.relocs.length + 1) (I.relocs.flatMap RelI.cells ++ o.cells)) (hg : w.grownBy w1 v3.ownBlock) :
    Mk B N w0 (w1.setCell ⟨N, 4, none⟩ v') { I with relocs := I.relocs ++ [o] } v1 v2 v' := by
  have hb : Below (N + 1) w w1 := (Below.refl (N + 1) w).grown hg h.hw (fun k e => (h.o3.lt k e).1)
  have hz := hg.size
  exact ⟨(World.cell?_setCell_other _ _ _ _ (addr_ne N 4 0 (by decide))).trans ((hb.cell (p := ⟨N, 0, none⟩) (Nat.lt_succ_self N)).trans h.i0),
    (World.cell?_setCell_other _ _ _ _ (addr_ne N 4 1 (by decide))).trans ((hb.cell (p := ⟨N, 1, none⟩) (Nat.lt_succ_self N)).trans h.i1),
    (World.cell?_setCell_other _ _ _ _ (addr_ne N 4 2 (by decide))).trans ((hb.cell (p := ⟨N, 2, none⟩) (Nat.lt_succ_self N)).trans h.i2),
    (World.cell?_setCell_other _ _ _ _ (addr_ne N 4 3 (by decide))).trans ((hb.cell (p := ⟨N, 3, none⟩) (Nat.lt_succ_self N)).trans h.i3),
    World.cell?_setCell_same _ _ _ ((hb.cell (p := ⟨N, 4, none⟩) (Nat.lt_succ_self N)).trans h.i4),
    (frozen_set' _ _ _ _).trans ((hb.frozen (p := ⟨N, 0, none⟩) (Nat.lt_succ_self N)).trans h.f0), (frozen_set' _ _ _ _).trans ((hb.frozen (p := ⟨N, 3, none⟩) (Nat.lt_succ_self N)).trans h.f3), (frozen_set' _ _ _ _).trans ((hb.frozen (p := ⟨N, 4, none⟩) (Nat.lt_succ_self N)).trans h.f4),
    own_set (h.o1.kept hg (own_apart h.o1 h.o3 (by decide))) (Nat.lt_succ_self N),
    own_set (h.o2.kept hg (own_apart h.o2 h.o3 (by decide))) (Nat.lt_succ_self N),
    by simpa using own_set hown (Nat.lt_succ_self N),
    h.hN, by have := h.hw; simp; omega, (h.below.trans (hb.mono (Nat.le_succ_of_le h.hN))).setCell h.hN _⟩
theorem own_slice {w : World} {base e size n : Nat} {v : Value} {xs : List Value} (h : w.ownsRow base e size v n xs) : ∃ (p : Option Addr) (c : Nat), v = .slice p n c ∧ (n = 0 ∨ ∃ g, p = some ⟨g, 0, none⟩ ∧ g < w.heap.size ∧ base ≤ g ∧ ∀ j u, xs[j]? = some u → w.cell? ⟨g, j, none⟩ = some u) := by
  rcases h.2 with ⟨rfl, hn⟩ | ⟨g, cap, cur, rfl, hb, hg, _⟩
  · subst hn; exact ⟨none, 0, rfl, .inl rfl⟩
  · refine ⟨some ⟨g, 0, none⟩, cap, rfl, .inr ⟨g, rfl, (Array.getElem?_eq_some_iff.1 hg).1, hb, fun j u hu => ?_⟩⟩
    have := h.cells (g := g) rfl j u hu
    rwa [show (⟨g, 0, none⟩ : Addr).add j = ⟨g, j, none⟩ from by unfold Addr.add; split <;> simp_all] at this
theorem flat_get {α : Type} (f : α → List Value) (c : Nat) (l : List α) (hc : ∀ x, (f x).length = c) : ∀ (k j : Nat) (x : α), l[k]? = some x → j < c → (l.flatMap f)[k * c + j]? = (f x)[j]? := by
  induction l with
  | nil => intro k j x h _; simp at h
  | cons y l ih =>
    intro k j x h hj
    rw [List.flatMap_cons]
    cases k with
    | zero =>
      simp at h; subst h
      rw [Nat.zero_mul, Nat.zero_add, List.getElem?_append_left (by rw [hc]; exact hj)]
    | succ k =>
      simp at h
      rw [Nat.succ_mul, List.getElem?_append_right (by rw [hc]; omega), hc, ← ih k j x h hj]
      congr 1
      omega
theorem Mk.img {B N : Nat} {w0 w : World} {I : Img} {v1 v2 v3 : Value} (h : Mk B N w0 w I v1 v2 v3) (hs : ∀ s ∈ I.banks, s.size ≤ maxLen) (ho : ∀ o ∈ I.data, o.ok) (hr : ∀ r ∈ I.relocs, r.ok) (he : OkU16 I.entry) (hv : OkU16 I.vector)
    (l1 : I.banks.length ≤ maxLen) (l2 : I.data.length ≤ maxLen) (l3 : I.relocs.length ≤ maxLen) :
    ∃ (p1 : Option Addr) (c1 : Nat) (p2 : Option Addr) (c2 : Nat) (p3 : Option Addr) (c3 : Nat), v1 = .slice p1 I.banks.length c1 ∧ v2 = .slice p2 I.data.length c2 ∧ v3 = .slice p3 I.relocs.length c3 ∧ ImgAt w p1 p2 p3 I := by
  obtain ⟨p1, c1, e1, k1⟩ := own_slice h.o1
  obtain ⟨p2, c2, e2, k2⟩ := own_slice h.o2
  obtain ⟨p3, c3, e3, k3⟩ := own_slice h.o3
  refine ⟨p1, c1, p2, c2, p3, c3, e1, e2, e3, ?_, ?_, ?_, he, hv, l1, l2, l3⟩
  · intro k s hk
    rcases k1 with k1 | ⟨g, rfl, hg, _, hc⟩
    · rw [List.eq_nil_of_length_eq_zero k1] at hk; simp at hk
    · exact ⟨g, rfl, hg, hc k _ (by rw [List.getElem?_map, hk]; rfl), hs s (List.mem_of_getElem? hk)⟩
  · intro k o hk
    rcases k2 with k2 | ⟨g, rfl, hg, _, hc⟩
    · rw [List.eq_nil_of_length_eq_zero k2] at hk; simp at hk
    · exact ⟨g, rfl, hg, hc (k * 3) _ (flat_get ObjI.cells 3 I.data (fun _ => rfl) k 0 o hk (by decide)), hc (k * 3 + 1) _ (flat_get ObjI.cells 3 I.data (fun _ => rfl) k 1 o hk (by decide)), hc (k * 3 + 2) _ (flat_get ObjI.cells 3 I.data (fun _ => rfl) k 2 o hk (by decide)), ho o (List.mem_of_getElem? hk)⟩
  · intro k o hk
    rcases k3 with k3 | ⟨g, rfl, hg, _, hc⟩
    · rw [List.eq_nil_of_length_eq_zero k3] at hk; simp at hk
    · exact ⟨g, rfl, hg, hc (k * 2) _ (flat_get RelI.cells 2 I.relocs (fun _ => rfl) k 0 o hk (by decide)), hc (k * 2 + 1) _ (flat_get RelI.cells 2 I.relocs (fun _ => rfl) k 1 o hk (by decide)), hr o (List.mem_of_getElem? hk)⟩
theorem news_obj {w : World} {t : Nat} (o : ObjI) : ∀ j u, o.cells[j]? = some u → (w.alloc (.cells #[.int .i64 o.bank, .int .u16 o.addr, .int .u16 o.size] t)).cell? ((⟨w.heap.size, 0, none⟩ : Addr).add j) = some u := by
  intro j u hj
  rw [show (⟨w.heap.size, 0, none⟩ : Addr).add j = ⟨w.heap.size, j, none⟩ from by unfold Addr.add; split <;> simp_all, Lib.cell_of_heap (alloc_at w _)]
  rw [← hj]
  unfold ObjI.cells
  simp
theorem news_rel {w : World} {t : Nat} (o : RelI) : ∀ j u, o.cells[j]? = some u → (w.alloc (.cells #[.int .i64 o.bank, .int .u16 o.off] t)).cell? ((⟨w.heap.size, 0, none⟩ : Addr).add j) = some u := by
  intro j u hj
  rw [show (⟨w.heap.size, 0, none⟩ : Addr).add j = ⟨w.heap.size, j, none⟩ from by unfold Addr.add; split <;> simp_all, Lib.cell_of_heap (alloc_at w _)]
  rw [← hj]
  unfold RelI.cells
  simp
theorem news_str {w : World} {t : Nat} (s : ByteArray) : ∀ j u, ([Value.string s] : List Value)[j]? = some u → (w.alloc (.cells #[.string s] t)).cell? ((⟨w.heap.size, 0, none⟩ : Addr).add j) = some u := by
  intro j u hj
  rw [show (⟨w.heap.size, 0, none⟩ : Addr).add j = ⟨w.heap.size, j, none⟩ from by unfold Addr.add; split <;> simp_all, Lib.cell_of_heap (alloc_at w _)]
  rw [← hj]
  simp
theorem one_obj (o : ObjI) : ∀ u ∈ o.cells, u.oneCell' = true := by intro u hu; simp [ObjI.cells] at hu; rcases hu with rfl | rfl | rfl <;> rfl
theorem one_rel (o : RelI) : ∀ u ∈ o.cells, u.oneCell' = true := by intro u hu; simp [RelI.cells] at hu; rcases hu with rfl | rfl <;> rfl
theorem one_str (s : ByteArray) : ∀ u ∈ ([Value.string s] : List Value), u.oneCell' = true := by intro u hu; simp at hu; subst hu; rfl
/-- Behind an append to one of the three rows, before its result is stored. -/
structure MkC (N : Nat) (w : World) (I : Img) (v1 v2 v3 : Value) : Prop where
  i0 : w.cell? ⟨N, 0, none⟩ = some v1
  i1 : w.cell? ⟨N, 1, none⟩ = some (.int .u16 I.entry)
  i2 : w.cell? ⟨N, 2, none⟩ = some (.int .u16 I.vector)
  i3 : w.cell? ⟨N, 3, none⟩ = some v2
  i4 : w.cell? ⟨N, 4, none⟩ = some v3
  f0 : w.frozen? ⟨N, 0, none⟩ = false
  f3 : w.frozen? ⟨N, 3, none⟩ = false
  f4 : w.frozen? ⟨N, 4, none⟩ = false
theorem Mk.keep {B N : Nat} {w0 w w1 : World} {I : Img} {v1 v2 v3 : Value} {o : Option Nat} (h : Mk B N w0 w I v1 v2 v3) (hg : w.grownBy w1 o) (ho : ∀ k, o = some k → N + 1 ≤ k) : MkC N w1 I v1 v2 v3 := by
  have hb : Below (N + 1) w w1 := (Below.refl (N + 1) w).grown hg h.hw ho
  have hl := Nat.lt_succ_self N
  exact ⟨(hb.cell hl).trans h.i0, (hb.cell hl).trans h.i1, (hb.cell hl).trans h.i2, (hb.cell hl).trans h.i3, (hb.cell hl).trans h.i4, (hb.frozen hl).trans h.f0, (hb.frozen hl).trans h.f3, (hb.frozen hl).trans h.f4⟩
def emptyS (n : Nat) (S : ByteArray) : Img := ⟨List.replicate n S, 0, 0, [], []⟩
end Go.Proofs.Ytgdiaaoekkdibaa
