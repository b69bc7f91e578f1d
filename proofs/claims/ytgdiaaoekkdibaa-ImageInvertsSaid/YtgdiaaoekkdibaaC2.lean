/- image.Write and its reference: plain part, and what memory holds. -/
import Derived.Test.YtgdiaaoekkdibaaC1
import Derived.Test.YtgdiaaoekkdibaaI10
import Derived.Test.YtgdiaaoekkdibaaR1
import Derived.Test.YtgdiaaoekkdibaaR2
import Derived.Test.YtgdiaaoekkdibaaFlowS
namespace Go.Proofs.Ytgdiaaoekkdibaa
set_option linter.unusedVariables false
set_option linter.unusedSimpArgs false
open Go.RowKit
def writeS (s : ByteArray) (o : Nat) (t : ByteArray) : ByteArray := s.extract 0 o ++ t ++ s.extract (o + t.size) s.size
/-- P3.5. -/
def writeI (I : Img) (b a : Int) (t : ByteArray) : Img × Int :=
  if (offI I.banks b a).2.2 = true ∧ (t.size : Int) ≤ (bankAt I.banks b).size - a % 4096 then ({ I with banks := I.banks.set b.toNat (writeS (bankAt I.banks b) (a % 4096).toNat t) }, 0) else (emptyI, 37)
theorem writeI_no (I : Img) (b a : Int) (t : ByteArray) (h : (offI I.banks b a).2.2 = false) : writeI I b a t = (emptyI, 37) := if_neg (by rw [h]; simp)
theorem writeI_long (I : Img) (b a : Int) (t : ByteArray) (h : ¬ (t.size : Int) ≤ (bankAt I.banks b).size - a % 4096) : writeI I b a t = (emptyI, 37) := if_neg (fun e => h e.2)
theorem writeI_yes (I : Img) (b a : Int) (t s : ByteArray) (M : Nat) (h1 : (offI I.banks b a).2.2 = true) (hs : bankAt I.banks b = s) (hM : a % 4096 = (M : Int)) (h2 : (t.size : Int) ≤ s.size - M) : writeI I b a t = ({ I with banks := I.banks.set b.toNat (writeS s M t) }, 0) := by
  unfold writeI
  rw [hs, hM, Int.toNat_natCast]
  exact if_pos ⟨h1, h2⟩
theorem writeS_size (s : ByteArray) (o : Nat) (t : ByteArray) (h : o + t.size ≤ s.size) : (writeS s o t).size = s.size := by
  unfold writeS
  rw [ByteArray.size_append, ByteArray.size_append, ByteArray.size_extract, ByteArray.size_extract]
  omega
structure WMem (w w' : World) (vs : List Value) : Prop where
  n : ∀ k u, vs[k]? = some u → w'.cell? ⟨w.heap.size, k, none⟩ = some u
  fn : ∀ k, w'.frozen? ⟨w.heap.size, k, none⟩ = false
  t : ∀ k, k < 5 → ∃ v, w'.cell? ⟨w.heap.size + 2, k, none⟩ = some v
  ft : ∀ k, w'.frozen? ⟨w.heap.size + 2, k, none⟩ = false
  size : w.heap.size + 3 ≤ w'.heap.size
  below : Below w.heap.size w w'
theorem WMem.far {w w' w1 : World} {vs : List Value} (h : WMem w w' vs) (hb : Below (w.heap.size + 3) w' w1) : WMem w w1 vs := by
  have h0 : w.heap.size < w.heap.size + 3 := by omega
  have h1 : w.heap.size + 2 < w.heap.size + 3 := by omega
  refine ⟨fun k u hk => (hb.cell h0).trans (h.n k u hk), fun k => (hb.frozen h0).trans (h.fn k), fun k hk => ?_, fun k => (hb.frozen h1).trans (h.ft k), ?_, h.below.trans (hb.mono (by omega))⟩
  · obtain ⟨v, hv⟩ := h.t k hk
    exact ⟨v, (hb.cell h1).trans hv⟩
  · have := h.size; have := hb.size; omega
theorem WMem.next {w w' w1 : World} {vs : List Value} (h : WMem w w' vs) (hb : Below w'.heap.size w' w1) : WMem w w1 vs := h.far (hb.mono h.size)
theorem WMem.set {w w' : World} {vs : List Value} (h : WMem w w' vs) (k : Nat) (u : Value) : WMem w (w'.setCell ⟨w.heap.size, k, none⟩ u) (vs.set k u) := by
  have hne : ∀ i, (⟨w.heap.size, k, none⟩ : Addr) ≠ ⟨w.heap.size + 2, i, none⟩ := fun i e => by injection e with e1; omega
  refine ⟨fun j x hj => ?_, fun j => (frozen_set' _ _ _ _).trans (h.fn j), fun j hj => ?_, fun j => (frozen_set' _ _ _ _).trans (h.ft j), by simp; exact h.size, h.below.setCell (Nat.le_refl _) _⟩
  · by_cases e : k = j
    · subst e
      have hlt : k < vs.length := by have := (List.getElem?_eq_some_iff.1 hj).1; simpa using this
      obtain ⟨y, hy⟩ := at_some vs k hlt
      rw [List.getElem?_set_self hlt] at hj
      cases hj
      exact World.cell?_setCell_same _ _ _ (h.n k y hy)
    · rw [List.getElem?_set_ne e] at hj
      exact (World.cell?_setCell_other _ _ _ _ (addr_ne _ k j e)).trans (h.n j x hj)
  · obtain ⟨v, hv⟩ := h.t j hj
    exact ⟨v, (World.cell?_setCell_other _ _ _ _ (hne j)).trans hv⟩

theorem wmem_start (w : World) (v0 v1 v2 v3 v4 b a : Value) : WMem w (((w.alloc (Obj.cells #[v0, v1, v2, v3, v4] 30)).alloc (Obj.cells #[b, a] 55)).alloc (Obj.cells #[Value.slice none 0 0, Value.int IntKind.u16 0, Value.int IntKind.u16 0, Value.slice none 0 0, Value.slice none 0 0] 30)) [v0, v1, v2, v3, v4] := by
  have hB := below_alloc (below_alloc (below1 w (Obj.cells #[v0, v1, v2, v3, v4] 30)) (Obj.cells #[b, a] 55)) (Obj.cells #[Value.slice none 0 0, Value.int IntKind.u16 0, Value.int IntKind.u16 0, Value.slice none 0 0, Value.slice none 0 0] 30)
  refine ⟨fun k u hk => ?_, fun k => by simp [go_sem], fun k hk => ?_, fun k => by simp [go_sem], by simp, hB⟩
  · have h1 : Below (w.alloc (Obj.cells #[v0, v1, v2, v3, v4] 30)).heap.size (w.alloc (Obj.cells #[v0, v1, v2, v3, v4] 30)) (((w.alloc (Obj.cells #[v0, v1, v2, v3, v4] 30)).alloc (Obj.cells #[b, a] 55)).alloc (Obj.cells #[Value.slice none 0 0, Value.int IntKind.u16 0, Value.int IntKind.u16 0, Value.slice none 0 0, Value.slice none 0 0] 30)) := below_alloc (below1 _ _) _
    exact (made_cells h1 k u (by simpa using hk)).1
  · have hs : ((w.alloc (Obj.cells #[v0, v1, v2, v3, v4] 30)).alloc (Obj.cells #[b, a] 55)).heap.size = w.heap.size + 2 := by simp
    have e := made_any (W9 := (w.alloc (Obj.cells #[v0, v1, v2, v3, v4] 30)).alloc (Obj.cells #[b, a] 55)) (Below.refl _ _ : Below (((w.alloc (Obj.cells #[v0, v1, v2, v3, v4] 30)).alloc (Obj.cells #[b, a] 55)).alloc (Obj.cells #[Value.slice none 0 0, Value.int IntKind.u16 0, Value.int IntKind.u16 0, Value.slice none 0 0, Value.slice none 0 0] 30)).heap.size _ _) k
    rw [hs] at e
    rw [e]
    rcases (show k = 0 ∨ k = 1 ∨ k = 2 ∨ k = 3 ∨ k = 4 by omega) with rfl | rfl | rfl | rfl | rfl <;> exact ⟨_, rfl⟩
def RowOf (B E size n : Nat) (xs : List Value) (v : Value) (V : World) : Prop := V.ownsRow B E size v n xs
theorem owned_img {w w1 : World} {I : Img} {p1 p2 p3 : Option Addr} {v1 : Value} {B c5 c6 : Nat} (hI : ImgAt w p1 p2 p3 I) (hb : Below w.heap.size w w1) (l : List ByteArray) (hl : l.length = I.banks.length) (hs : ∀ s ∈ l, s.size ≤ maxLen) (ho : w1.ownsRow B 9 1 v1 l.length (l.map Value.string)) :
    OwnedImg { I with banks := l } (.agg #[v1, .int .u16 I.entry, .int .u16 I.vector, .slice p2 I.data.length c5, .slice p3 I.relocs.length c6]) w1 := by
  obtain ⟨o1, c1, rfl, k1⟩ := own_slice ho
  have hI2 := hI.kept hb
  refine ⟨o1, c1, p2, c5, p3, c6, rfl, ⟨fun k s hk => ?_, hI2.data, hI2.relocs, hI.entry, hI.vector, by rw [hl]; exact hI.l1, hI.l2, hI.l3⟩⟩
  rcases k1 with k1 | ⟨g, rfl, hg, _, hc⟩
  · rw [List.eq_nil_of_length_eq_zero k1] at hk; simp at hk
  · exact ⟨g, rfl, hg, hc k _ (by rw [List.getElem?_map, hk]; rfl), hs s (List.mem_of_getElem? hk)⟩
theorem owned_all {w w1 : World} {I : Img} {p1 p2 p3 : Option Addr} {v1 v2 v3 : Value} {B : Nat} (hI : ImgAt w p1 p2 p3 I) (l : List ByteArray) (hl : l.length = I.banks.length) (hs : ∀ s ∈ l, s.size ≤ maxLen) (h1 : w1.ownsRow B 9 1 v1 l.length (l.map Value.string))
    (h2 : w1.ownsRow B 39 3 v2 I.data.length (I.data.flatMap ObjI.cells)) (h3 : w1.ownsRow B 41 2 v3 I.relocs.length (I.relocs.flatMap RelI.cells)) : OwnedImg { I with banks := l } (.agg #[v1, .int .u16 I.entry, .int .u16 I.vector, v2, v3]) w1 := by
  obtain ⟨_, i2, i3⟩ := img_parts hI
  obtain ⟨o1, o4, o2, o5, o3, o6, rfl, rfl, rfl, hA⟩ := Owned.img (I := { I with banks := l }) ⟨h1, h2, h3⟩ hs i2 i3 hI.entry hI.vector (by show l.length ≤ maxLen; rw [hl]; exact hI.l1) hI.l2 hI.l3
  exact ⟨o1, o4, o2, o5, o3, o6, rfl, hA⟩
end Go.Proofs.Ytgdiaaoekkdibaa
