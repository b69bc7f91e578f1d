/- What the reference's Read keeps in memory, and the plain steps of its loops. -/
import Derived.Test.YtgdiaaoekkdibaaK1
import Derived.Test.YtgdiaaoekkdibaaI2
import Derived.Test.YtgdiaaoekkdibaaI4
namespace Go.Proofs.Ytgdiaaoekkdibaa
set_option linter.unusedVariables false
set_option linter.unusedSimpArgs false
open Go.RowKit
def zimg : Array Value := #[Value.slice none 0 0, Value.int IntKind.u16 0, Value.int IntKind.u16 0, Value.slice none 0 0, Value.slice none 0 0]
def ResAt (w V : World) : Prop := V.heap[w.heap.size]? = some (.cells #[Value.slice none 0 0, Value.int IntKind.u16 0, Value.int IntKind.u16 0, Value.slice none 0 0, Value.slice none 0 0] 30 (0, 0))
theorem resAt_start (w : World) : ResAt w (w.alloc (Obj.cells #[Value.slice none 0 0, Value.int IntKind.u16 0, Value.int IntKind.u16 0, Value.slice none 0 0, Value.slice none 0 0] 30)) := alloc_at w _
theorem ResAt.next {w V U : World} {B : Nat} (h : ResAt w V) (hw : w.heap.size < B) (hb : Below B V U) : ResAt w U := (hb.block _ hw).trans h
theorem ResAt.cells {w V : World} (h : ResAt w V) : (V.cell? ⟨w.heap.size, 0, none⟩ = some (.slice none 0 0) ∧ V.cell? ⟨w.heap.size, 1, none⟩ = some (.int .u16 0) ∧ V.cell? ⟨w.heap.size, 2, none⟩ = some (.int .u16 0) ∧ V.cell? ⟨w.heap.size, 3, none⟩ = some (.slice none 0 0) ∧ V.cell? ⟨w.heap.size, 4, none⟩ = some (.slice none 0 0)) ∧
    (V.frozen? ⟨w.heap.size, 0, none⟩ = false ∧ V.frozen? ⟨w.heap.size, 1, none⟩ = false ∧ V.frozen? ⟨w.heap.size, 2, none⟩ = false ∧ V.frozen? ⟨w.heap.size, 3, none⟩ = false ∧ V.frozen? ⟨w.heap.size, 4, none⟩ = false) := by
  have c := fun j => Lib.cell_of_heap h j
  have f : ∀ j, V.frozen? ⟨w.heap.size, j, none⟩ = false := fun j => by unfold World.frozen?; rw [show V.heap[w.heap.size]? = _ from h]; simp
  exact ⟨⟨c 0, c 1, c 2, c 3, c 4⟩, f 0, f 1, f 2, f 3, f 4⟩
theorem ResAt.selfs {w V : World} (h : ResAt w V) : V.setCell ⟨w.heap.size, 0, none⟩ (.slice none 0 0) = V ∧ V.setCell ⟨w.heap.size, 1, none⟩ (.int .u16 0) = V ∧ V.setCell ⟨w.heap.size, 2, none⟩ (.int .u16 0) = V ∧ V.setCell ⟨w.heap.size, 3, none⟩ (.slice none 0 0) = V ∧ V.setCell ⟨w.heap.size, 4, none⟩ (.slice none 0 0) = V := by
  obtain ⟨⟨a, b, c, d, e⟩, _⟩ := h.cells
  exact ⟨setCell_self a, setCell_self b, setCell_self c, setCell_self d, setCell_self e⟩
theorem readE_bad (s : ByteArray) {a b : Int} (h : headE s = (a, b)) (hb : b ≠ 0) : readE s = (a, b) := by rw [readE_head s (by rw [h]; exact hb), h]
structure NM (w : World) (N : Nat) (V : World) (I : Img) (v1 v2 v3 : Value) : Prop where
  m : Mk w.heap.size N w V I v1 v2 v3
  r : ResAt w V
  lt : w.heap.size < N
theorem NM.next {w V V1 : World} {N : Nat} {I : Img} {v1 v2 v3 : Value} (h : NM w N V I v1 v2 v3) (hb : Below V.heap.size V V1) : NM w N V1 I v1 v2 v3 :=
  ⟨h.m.next hb, h.r.next (Nat.lt_trans h.lt h.m.hw) hb, h.lt⟩
theorem NM.grow {w V V1 : World} {N : Nat} {I J : Img} {v1 v2 v3 u1 u2 u3 v u : Value} {E size n k : Nat} {xs : List Value} (h : NM w N V I v1 v2 v3) (ho : V.ownsRow (N + 1) E size v n xs) (hg : V.grownBy V1 v.ownBlock)
    (hm : Mk w.heap.size N w (V1.setCell ⟨N, k, none⟩ u) J u1 u2 u3) : NM w N (V1.setCell ⟨N, k, none⟩ u) J u1 u2 u3 := by
  have hb : Below (N + 1) V V1 := (Below.refl _ _).grown hg h.m.hw (fun j e => (ho.lt j e).1)
  have hlt := h.lt
  refine ⟨hm, ?_, h.lt⟩
  unfold ResAt
  rw [Below.heap_setCell _ _ _ _ (by simp; omega)]
  exact h.r.next (by omega) hb
theorem nm_start {w W W9 V : World} {x y : Int} (hr : ResAt w W) (hbw : Below w.heap.size w W) (hlt : w.heap.size < W.heap.size) (hW9 : Below W.heap.size W W9)
    (h : Below (W9.alloc (Obj.cells #[Value.slice none 0 0, Value.int IntKind.u16 0, Value.int IntKind.u16 0, Value.slice none 0 0, Value.slice none 0 0] 30)).heap.size (W9.alloc (Obj.cells #[Value.slice none 0 0, Value.int IntKind.u16 0, Value.int IntKind.u16 0, Value.slice none 0 0, Value.slice none 0 0] 30)) V) :
    NM w W9.heap.size (((((V.setCell ⟨W9.heap.size, 0, none⟩ (.slice none 0 0)).setCell ⟨W9.heap.size, 1, none⟩ (.int .u16 x)).setCell ⟨W9.heap.size, 2, none⟩ (.int .u16 y)).setCell ⟨W9.heap.size, 3, none⟩ (.slice none 0 0)).setCell ⟨W9.heap.size, 4, none⟩ (.slice none 0 0)) ⟨[], x, y, [], []⟩ (.slice none 0 0) (.slice none 0 0) (.slice none 0 0) := by
  obtain ⟨hB, hC⟩ := stored h hW9 [.slice none 0 0, .int .u16 x, .int .u16 y, .slice none 0 0, .slice none 0 0] rfl
  simp only [setAll] at hB hC
  have c := fun k u hk => hC _ (Below.refl _ _) k u hk
  have hsz := hW9.size
  have hf : ∀ j, (((((V.setCell ⟨W9.heap.size, 0, none⟩ (.slice none 0 0)).setCell ⟨W9.heap.size, 1, none⟩ (.int .u16 x)).setCell ⟨W9.heap.size, 2, none⟩ (.int .u16 y)).setCell ⟨W9.heap.size, 3, none⟩ (.slice none 0 0)).setCell ⟨W9.heap.size, 4, none⟩ (.slice none 0 0)).frozen? ⟨W9.heap.size, j, none⟩ = false := fun j => by
    rw [frozen_set', frozen_set', frozen_set', frozen_set', frozen_set', h.frozen (p := ⟨W9.heap.size, j, none⟩) (by simp)]; simp [go_sem]
  refine ⟨⟨c 0 _ rfl, c 1 _ rfl, c 2 _ rfl, c 3 _ rfl, c 4 _ rfl, hf 0, hf 3, hf 4, World.ownsRow_nil _ _ _ _, World.ownsRow_nil _ _ _ _, World.ownsRow_nil _ _ _ _, by omega, ?_, hbw.trans (hB.mono hbw.size)⟩, hr.next hlt hB, by omega⟩
  have := h.size
  simp at this ⊢
  omega
theorem rgetk_any (s : ByteArray) (k : Nat) (V : World) (hs : s.size ≤ maxLen) : Calls Try.prog 39 #[.string (s.extract k s.size)] V fun e w' => e = .returned (.int .u16 (wordAt s k)) ∧ V = w' :=
  rget_any _ V (by rw [ByteArray.size_extract]; omega)
def prt (s : ByteArray) (kb ko kr : Nat) : Img := ⟨(List.range kb).map (bankS s), wordAt s 6, wordAt s 8, (List.range ko).map (objAt s), (List.range kr).map (relAt s)⟩
theorem NM.own1 {s : ByteArray} {w V : World} {N kb ko kr : Nat} {v1 v2 v3 : Value} (h : NM w N V (prt s kb ko kr) v1 v2 v3) : ∃ q e, v1 = .slice q kb e ∧ V.ownsRow (N + 1) 9 1 (.slice q kb e) kb (((List.range kb).map (bankS s)).map Value.string) := by
  have ho := h.m.o1
  obtain ⟨q, e, rfl, _⟩ := own_slice ho
  simp only [prt, List.length_map, List.length_range] at ho
  exact ⟨q, e, by simp [prt], ho⟩
theorem NM.own2 {s : ByteArray} {w V : World} {N kb ko kr : Nat} {v1 v2 v3 : Value} (h : NM w N V (prt s kb ko kr) v1 v2 v3) : ∃ q e, v2 = .slice q ko e ∧ V.ownsRow (N + 1) 39 3 (.slice q ko e) ko (((List.range ko).map (objAt s)).flatMap ObjI.cells) := by
  have ho := h.m.o2
  obtain ⟨q, e, rfl, _⟩ := own_slice ho
  simp only [prt, List.length_map, List.length_range] at ho
  exact ⟨q, e, by simp [prt], ho⟩
theorem NM.own3 {s : ByteArray} {w V : World} {N kb ko kr : Nat} {v1 v2 v3 : Value} (h : NM w N V (prt s kb ko kr) v1 v2 v3) : ∃ q e, v3 = .slice q kr e ∧ V.ownsRow (N + 1) 41 2 (.slice q kr e) kr (((List.range kr).map (relAt s)).flatMap RelI.cells) := by
  have ho := h.m.o3
  obtain ⟨q, e, rfl, _⟩ := own_slice ho
  simp only [prt, List.length_map, List.length_range] at ho
  exact ⟨q, e, by simp [prt], ho⟩
theorem NM.add1 {s : ByteArray} {w V V1 : World} {N k ko kr : Nat} {v1 v2 v3 v' : Value} (h : NM w N V (prt s k ko kr) v1 v2 v3) (hown : V1.ownsRow (N + 1) 9 1 v' (k + 1) (((List.range k).map (bankS s)).map Value.string ++ [Value.string (bankS s k)])) (hg : V.grownBy V1 v1.ownBlock) :
    NM w N (V1.setCell ⟨N, 0, none⟩ v') (prt s (k + 1) ko kr) v' v2 v3 := by
  have hm := h.m.push1 (bankS s k) (by simpa [prt] using hown) hg
  have e : ({ prt s k ko kr with banks := (prt s k ko kr).banks ++ [bankS s k] } : Img) = prt s (k + 1) ko kr := by unfold prt; rw [range_map_succ]
  rw [e] at hm
  exact h.grow h.m.o1 hg hm
theorem NM.add2 {s : ByteArray} {w V V1 : World} {N k kb kr : Nat} {v1 v2 v3 v' : Value} {o : ObjI} (h : NM w N V (prt s kb k kr) v1 v2 v3) (ho : objAt s k = o) (hown : V1.ownsRow (N + 1) 39 3 v' (k + 1) (((List.range k).map (objAt s)).flatMap ObjI.cells ++ o.cells)) (hg : V.grownBy V1 v2.ownBlock) :
    NM w N (V1.setCell ⟨N, 3, none⟩ v') (prt s kb (k + 1) kr) v1 v' v3 := by
  subst ho
  have hm := h.m.push2 (objAt s k) (by simpa [prt] using hown) hg
  have e : ({ prt s kb k kr with data := (prt s kb k kr).data ++ [objAt s k] } : Img) = prt s kb (k + 1) kr := by unfold prt; rw [range_map_succ]
  rw [e] at hm
  exact h.grow h.m.o2 hg hm
theorem NM.add3 {s : ByteArray} {w V V1 : World} {N k kb ko : Nat} {v1 v2 v3 v' : Value} {o : RelI} (h : NM w N V (prt s kb ko k) v1 v2 v3) (ho : relAt s k = o) (hown : V1.ownsRow (N + 1) 41 2 v' (k + 1) (((List.range k).map (relAt s)).flatMap RelI.cells ++ o.cells)) (hg : V.grownBy V1 v3.ownBlock) :
    NM w N (V1.setCell ⟨N, 4, none⟩ v') (prt s kb ko (k + 1)) v1 v2 v' := by
  subst ho
  have hm := h.m.push3 (relAt s k) (by simpa [prt] using hown) hg
  have e : ({ prt s kb ko k with relocs := (prt s kb ko k).relocs ++ [relAt s k] } : Img) = prt s kb ko (k + 1) := by unfold prt; rw [range_map_succ]
  rw [e] at hm
  exact h.grow h.m.o3 hg hm
theorem NM.img {s : ByteArray} {w V : World} {N kb ko kr : Nat} {v1 v2 v3 : Value} (h : NM w N V (prt s kb ko kr) v1 v2 v3) (n1 : kb ≤ 64) (n2 : ko ≤ 512) (n3 : kr ≤ 20000) :
    ∃ (p1 : Option Addr) (c1 : Nat) (p2 : Option Addr) (c2 : Nat) (p3 : Option Addr) (c3 : Nat), v1 = .slice p1 kb c1 ∧ v2 = .slice p2 ko c2 ∧ v3 = .slice p3 kr c3 ∧ ImgAt V p1 p2 p3 (prt s kb ko kr) := by
  obtain ⟨p1, c1, p2, c2, p3, c3, e1, e2, e3, hI⟩ := Mk.img (I := prt s kb ko kr) h.m (by
    intro x hx
    simp only [prt, List.mem_map] at hx
    obtain ⟨j, _, rfl⟩ := hx
    have := bankS_size s j
    unfold maxLen; omega) (by
    intro x hx
    simp only [prt, List.mem_map] at hx
    obtain ⟨j, _, rfl⟩ := hx
    exact objAt_ok s j) (by
    intro x hx
    simp only [prt, List.mem_map] at hx
    obtain ⟨j, _, rfl⟩ := hx
    exact relAt_ok s j) (wordAt_bd _ _) (wordAt_bd _ _) (by simp [prt]; unfold maxLen; omega) (by simp [prt]; unfold maxLen; omega) (by simp [prt]; unfold maxLen; omega)
  exact ⟨p1, c1, p2, c2, p3, c3, by simpa [prt] using e1, by simpa [prt] using e2, by simpa [prt] using e3, hI⟩
theorem prev_range {α : Type} (f : Nat → α) (k n : Nat) (h : k < n) : prevAt ((List.range (k + 1)).map f) k = prevAt ((List.range n).map f) k := by
  unfold prevAt
  by_cases h0 : k = 0
  · rw [if_pos h0, if_pos h0]
  · rw [if_neg h0, if_neg h0, List.getElem?_map, List.getElem?_map, List.getElem?_range (by omega), List.getElem?_range (by omega)]
theorem range_at {α : Type} (f : Nat → α) (k n : Nat) (h : k < n) : ((List.range n).map f)[k]? = some (f k) := by rw [List.getElem?_map, List.getElem?_range h]; rfl
def OStep (s : ByteArray) (k : Nat) : Prop := firstObj (nB s) none (imgOf s).data 0 = firstObj (nB s) (prevAt (imgOf s).data k) ((imgOf s).data.drop k) k
theorem OStep.start (s : ByteArray) : OStep s 0 := rfl
theorem OStep.next {s : ByteArray} {k : Nat} (h : OStep s k) (hk : k < nO s) (hw : objWrong (nB s) (prevAt ((List.range (k + 1)).map (objAt s)) k) (objAt s k) = false) : OStep s (k + 1) := by
  unfold OStep at h ⊢
  rw [h]
  rw [prev_range (objAt s) k (nO s) hk] at hw
  have hl := range_at (objAt s) k (nO s) hk
  have hl := range_at (objAt s) k (nO s) hk
  have e : (imgOf s).data = (List.range (nO s)).map (objAt s) := by simp only [imgOf]
  rw [e]
  generalize (List.range (nO s)).map (objAt s) = l at *
  exact firstObj_miss _ _ k _ _ hl hw
theorem OStep.bad {s : ByteArray} {k : Nat} (h : OStep s k) (hk : k < nO s) (hw : objWrong (nB s) (prevAt ((List.range (k + 1)).map (objAt s)) k) (objAt s k) = true) : firstObj (nB s) none (imgOf s).data 0 = k := by
  unfold OStep at h
  rw [h]
  rw [prev_range (objAt s) k (nO s) hk] at hw
  have hl := range_at (objAt s) k (nO s) hk
  have hl := range_at (objAt s) k (nO s) hk
  have e : (imgOf s).data = (List.range (nO s)).map (objAt s) := by simp only [imgOf]
  rw [e]
  generalize (List.range (nO s)).map (objAt s) = l at *
  exact firstObj_hit _ _ k _ _ hl hw
theorem OStep.done {s : ByteArray} (h : OStep s (nO s)) : firstObj (nB s) none (imgOf s).data 0 = -1 := by
  unfold OStep at h
  rw [h, show (imgOf s).data.drop (nO s) = [] from List.drop_eq_nil_of_le (by simp [imgOf])]
  rfl
def RStep (s : ByteArray) (k : Nat) : Prop := firstRel (imgOf s).banks (imgOf s).data none (imgOf s).relocs 0 = firstRel (imgOf s).banks (imgOf s).data (prevAt (imgOf s).relocs k) ((imgOf s).relocs.drop k) k
theorem RStep.start (s : ByteArray) : RStep s 0 := rfl
theorem RStep.next {s : ByteArray} {k : Nat} (h : RStep s k) (hk : k < nR s) (hw : relWrong (imgOf s).banks (imgOf s).data (prevAt ((List.range (k + 1)).map (relAt s)) k) (relAt s k) = false) : RStep s (k + 1) := by
  unfold RStep at h ⊢
  rw [h]
  rw [prev_range (relAt s) k (nR s) hk] at hw
  have hl := range_at (relAt s) k (nR s) hk
  have hl := range_at (relAt s) k (nR s) hk
  have e : (imgOf s).relocs = (List.range (nR s)).map (relAt s) := by simp only [imgOf]
  rw [e]
  generalize (List.range (nR s)).map (relAt s) = l at *
  exact firstRel_miss _ _ _ k _ _ hl hw
theorem RStep.bad {s : ByteArray} {k : Nat} (h : RStep s k) (hk : k < nR s) (hw : relWrong (imgOf s).banks (imgOf s).data (prevAt ((List.range (k + 1)).map (relAt s)) k) (relAt s k) = true) : firstRel (imgOf s).banks (imgOf s).data none (imgOf s).relocs 0 = k := by
  unfold RStep at h
  rw [h]
  rw [prev_range (relAt s) k (nR s) hk] at hw
  have hl := range_at (relAt s) k (nR s) hk
  have hl := range_at (relAt s) k (nR s) hk
  have e : (imgOf s).relocs = (List.range (nR s)).map (relAt s) := by simp only [imgOf]
  rw [e]
  generalize (List.range (nR s)).map (relAt s) = l at *
  exact firstRel_hit _ _ _ k _ _ hl hw
theorem RStep.done {s : ByteArray} (h : RStep s (nR s)) : firstRel (imgOf s).banks (imgOf s).data none (imgOf s).relocs 0 = -1 := by
  unfold RStep at h
  rw [h, show (imgOf s).relocs.drop (nR s) = [] from List.drop_eq_nil_of_le (by simp [imgOf])]
  rfl
theorem wobj_part (s : ByteArray) (k : Nat) (w V : World) (N : Nat) (v1 v3 : Value) (p : Option Addr) (c : Nat) (h : NM w N V (prt s (nB s) (k + 1) 0) v1 (.slice p (k + 1) c) v3) (n1 : nB s ≤ 64) (n2 : k + 1 ≤ 512) :
    Calls Try.prog 48 #[.int .i64 (nB s : Int), .slice p (k + 1) c, .int .i64 (k : Int)] V fun e w' => e = .returned (.bool (objWrong (nB s) (prevAt ((List.range (k + 1)).map (objAt s)) k) (objAt s k))) ∧ Below V.heap.size V w' := by
  obtain ⟨p1, c1, p2, c2, p3, c3, e1, e2, e3, hI⟩ := h.img n1 n2 (Nat.zero_le _)
  injection e2 with e2 _ e4
  subst e2 e4
  have hc := wrongObject_any p c (prt s (nB s) (k + 1) 0).data k (nB s) V hI.l2 hI.data ⟨by omega, by omega⟩ (objAt s k) (range_at _ _ _ (by omega))
  simpa [prt] using hc
theorem wrel_part (s : ByteArray) (k : Nat) (w V : World) (N : Nat) (p1 : Option Addr) (c1 : Nat) (p2 : Option Addr) (c2 : Nat) (p3 : Option Addr) (c3 : Nat) (h : NM w N V (prt s (nB s) (nO s) (k + 1)) (.slice p1 (nB s) c1) (.slice p2 (nO s) c2) (.slice p3 (k + 1) c3)) (n1 : nB s ≤ 64) (n2 : nO s ≤ 512) (n3 : k + 1 ≤ 20000) (hz : stopA s ≤ s.size) :
    Calls Try.prog 49 #[.slice p1 (nB s) c1, .slice p2 (nO s) c2, .slice p3 (k + 1) c3, .int .i64 (k : Int)] V fun e w' => e = .returned (.bool (relWrong (imgOf s).banks (imgOf s).data (prevAt ((List.range (k + 1)).map (relAt s)) k) (relAt s k))) ∧ Below V.heap.size V w' := by
  obtain ⟨q1, d1, q2, d2, q3, d3, e1, e2, e3, hI⟩ := h.img n1 n2 n3
  have er := range_at (relAt s) k (k + 1) (Nat.lt_succ_self k)
  injection e1 with e1 _ f1
  injection e2 with e2 _ f2
  injection e3 with e3 _ f3
  subst e1 f1 e2 f2 e3 f3
  have hF : Full (prt s (nB s) (nO s) (k + 1)).banks := by
    intro x hx
    simp only [prt, List.mem_map, List.mem_range] at hx
    obtain ⟨j, hj, rfl⟩ := hx
    exact bankS_full s j hj hz
  have eb : (imgOf s).banks = (List.range (nB s)).map (bankS s) := by simp only [imgOf]
  have ed : (imgOf s).data = (List.range (nO s)).map (objAt s) := by simp only [imgOf]
  rw [eb, ed]
  have hc := wrongReloc_any p1 c1 (prt s (nB s) (nO s) (k + 1)).banks p2 c2 (prt s (nB s) (nO s) (k + 1)).data p3 c3 (prt s (nB s) (nO s) (k + 1)).relocs k V hI.banks hI.data hI.relocs hI.l1 hI.l2 hI.l3 hF (relAt s k) er
  simp only [prt, List.length_map, List.length_range] at hc
  exact hc
theorem img_other {V : World} {B : Nat} (vs : List Value) (h : V.heap[B]? = some (.cells #[Value.slice none 0 0, Value.int IntKind.u16 0, Value.int IntKind.u16 0, Value.slice none 0 0, Value.slice none 0 0] 30 (0, 0))) (p1 p2 p3 : Option Addr) (I : Img) (hI : ImgAt V p1 p2 p3 I) : ImgAt (setAll B vs 0 V) p1 p2 p3 I := by
  have hsz := setAll_size B vs 0 V
  have c := fun j => Lib.cell_of_heap h j
  have cases5 : ∀ (k : Nat) (u : Value), V.cell? ⟨B, k, none⟩ = some u → u = .slice none 0 0 ∨ u = .int .u16 0 ∧ (k = 1 ∨ k = 2) := by
    intro k u hu
    rw [c k] at hu
    match k with
    | 0 => simp at hu; exact .inl hu.symm
    | 1 => simp at hu; exact .inr ⟨hu.symm, .inl rfl⟩
    | 2 => simp at hu; exact .inr ⟨hu.symm, .inr rfl⟩
    | 3 => simp at hu; exact .inl hu.symm
    | 4 => simp at hu; exact .inl hu.symm
    | n + 5 => simp at hu
  have other : ∀ p : Addr, p.block ≠ B → (setAll B vs 0 V).cell? p = V.cell? p := fun p hp => setAll_other hp vs 0 V
  obtain ⟨j1, j2, j3, je, jv, l1, l2, l3⟩ := hI
  refine ⟨fun k s hk => ?_, fun k o hk => ?_, fun k r hk => ?_, je, jv, l1, l2, l3⟩
  · obtain ⟨D, e, hB, c0, z⟩ := j1 k s hk
    have hne : D ≠ B := fun e2 => by
      subst e2
      rcases cases5 _ _ c0 with h1 | ⟨h1, _⟩ <;> cases h1
    exact ⟨D, e, by rw [hsz]; exact hB, (other _ hne).trans c0, z⟩
  · obtain ⟨D, e, hB, c0, c1, c2, z⟩ := j2 k o hk
    have hne : D ≠ B := fun e2 => by
      subst e2
      rcases cases5 _ _ c0 with h1 | ⟨h1, _⟩ <;> cases h1
    exact ⟨D, e, by rw [hsz]; exact hB, (other _ hne).trans c0, (other _ hne).trans c1, (other _ hne).trans c2, z⟩
  · obtain ⟨D, e, hB, c0, c1, z⟩ := j3 k r hk
    have hne : D ≠ B := fun e2 => by
      subst e2
      rcases cases5 _ _ c0 with h1 | ⟨h1, _⟩ <;> cases h1
    exact ⟨D, e, by rw [hsz]; exact hB, (other _ hne).trans c0, (other _ hne).trans c1, z⟩
theorem ReadPost_ok {s : ByteArray} {w V : World} {N : Nat} {v1 v2 v3 : Value} (h : NM w N V (prt s (nB s) (nO s) (nR s)) v1 v2 v3) (n1 : nB s ≤ 64) (n2 : nO s ≤ 512) (n3 : nR s ≤ 20000) (hE : readE s = (0, 0)) {U : World} (hb : Below w.heap.size w U) (hU : ∀ p1 p2 p3, ImgAt V p1 p2 p3 (imgOf s) → ImgAt U p1 p2 p3 (imgOf s)) :
    ReadPost s w (.returned (.tuple #[.agg #[v1, .int .u16 (wordAt s 6), .int .u16 (wordAt s 8), v2, v3], .int .i64 0, .int .i64 0])) U := by
  obtain ⟨p1, c1, p2, c2, p3, c3, rfl, rfl, rfl, hI⟩ := h.img n1 n2 n3
  refine ⟨p1, c1, p2, c2, p3, c3, ?_, ?_, hb⟩
  · rw [readI_ok s hE, hE]
    simp [imgV, imgOf]
  · rw [readI_ok s hE]
    exact hU _ _ _ hI
end Go.Proofs.Ytgdiaaoekkdibaa
