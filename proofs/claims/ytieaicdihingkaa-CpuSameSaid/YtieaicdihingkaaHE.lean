/- What CpuSame holds of the world: blocks, and the three states. -/
import Derived.Test.YtieaicdihingkaaHU
import Derived.Test.YtieaicdihingkaaS4
namespace Go.Proofs.Ytieaicdihingkaa
set_option linter.unusedVariables false
set_option linter.unusedSimpArgs false
open Go.RowKit
theorem set_row {W : World} {A k : Nat} {c : Array Value} {t : TypeId} {v : Value} (hA : W.heap[A]? = some (.cells c t (0, 0))) : W.setCell ⟨A, k, none⟩ v = W.setRow A (c.setIfInBounds k v) := by
 unfold World.setCell World.setRow
 congr 1
 refine Array.ext_getElem? fun i => ?_
 simp only [Array.getElem?_modify]
 by_cases h : A = i
 ·subst h; simp [hA]
 ·simp [h]
/-- The blocks of the law. -/
structure BkIn (w0 W : World) (bs : List Blk) : Prop where
 bel : Below w0.heap.size w0 W
 blk : ∀ x ∈ bs, W.heap[x.1]? = some (.cells x.2.1 x.2.2 (0, 0)) ∧ w0.heap.size ≤ x.1
 nd : ∀ (i j : Nat) (x y : Blk), bs[i]? = some x → bs[j]? = some y → x.1 = y.1 → i = j
theorem BkIn.at {w0 W : World} {bs : List Blk} (h : BkIn w0 W bs) (i : Nat) {A : Nat} {c : Array Value} {t : TypeId} (hi : bs[i]? = some (A, c, t)) : W.heap[A]? = some (.cells c t (0, 0)) := (h.blk _ (List.mem_of_getElem? hi)).1
theorem BkIn.next {w0 W V : World} {bs : List Blk} (h : BkIn w0 W bs) (hb : Below W.heap.size W V) : BkIn w0 V bs :=
 ⟨below_next h.bel hb, fun x hx => ⟨at_next hb (h.blk x hx).1, (h.blk x hx).2⟩, h.nd⟩
theorem BkIn.alloc {w0 W V : World} {bs : List Blk} {c : Array Value} {t : TypeId} (h : BkIn w0 W bs) (e : W.alloc (.cells c t) = V) : BkIn w0 V ((W.heap.size, c, t) :: bs) := by
 have h1 := h.next (al_bel e)
 refine ⟨h1.bel, fun x hx => ?_, fun i j x y hi hj hxy => ?_⟩
 ·rcases List.mem_cons.1 hx with rfl | hx
  ·exact ⟨al_blk e, h.bel.size⟩
  ·exact h1.blk x hx
 ·have lt : ∀ z ∈ bs, z.1 < W.heap.size := fun z hz => at_lt (h.blk z hz).1
  cases i with
  | zero =>
   cases j with
   | zero => rfl
   | succ j =>
    have h9 := lt y (List.mem_of_getElem? (by simpa using hj))
    obtain rfl : (W.heap.size, c, t) = x := by simpa using hi
    omega
  | succ i =>
   cases j with
   | zero =>
    have h9 := lt x (List.mem_of_getElem? (by simpa using hi))
    obtain rfl : (W.heap.size, c, t) = y := by simpa using hj
    omega
   | succ j => rw [h.nd i j x y (by simpa using hi) (by simpa using hj) hxy]
theorem BkIn.two {w0 W V : World} {bs : List Blk} {c d : Array Value} {t u : TypeId} (h : BkIn w0 W bs) (e : (W.alloc (.cells c t)).alloc (.cells d u) = V) : BkIn w0 V ((W.heap.size + 1, d, u) :: (W.heap.size, c, t) :: bs) := by
 have h9 := (h.alloc rfl).alloc e
 rwa [World.size_alloc] at h9
theorem BkIn.three {w0 W V : World} {bs : List Blk} {c d f : Array Value} {t u r : TypeId} (h : BkIn w0 W bs) (e : ((W.alloc (.cells c t)).alloc (.cells d u)).alloc (.cells f r) = V) : BkIn w0 V ((W.heap.size + 1 + 1, f, r) :: (W.heap.size + 1, d, u) :: (W.heap.size, c, t) :: bs) := by
 have h9 := (h.two rfl).alloc e
 rwa [World.size_alloc, World.size_alloc] at h9
theorem BkIn.row {w0 W V : World} {bs : List Blk} (h : BkIn w0 W bs) (i : Nat) {A : Nat} {c : Array Value} {t : TypeId} (hi : bs[i]? = some (A, c, t)) {C : Array Value} (e : W.setRow A C = V) : BkIn w0 V (bs.set i (A, C, t)) := by
 have hA := h.at i hi
 have hl := (h.blk _ (List.mem_of_getElem? hi)).2
 have fst : ∀ j x, (bs.set i (A, C, t))[j]? = some x → ∃ y, bs[j]? = some y ∧ y.1 = x.1 ∧ (j = i → x = (A, C, t)) ∧ (j ≠ i → y = x) := fun j x hj => by
  rw [List.getElem?_set] at hj
  by_cases e : i = j
  ·subst e
   have hlt := (List.getElem?_eq_some_iff.1 hi).1
   simp [hlt] at hj
   exact ⟨_, hi, by rw [← hj], fun _ => hj.symm, fun h => absurd rfl h⟩
  ·simp [e] at hj
   exact ⟨x, hj, rfl, fun h => absurd h.symm e, fun _ => rfl⟩
 refine ⟨by subst e; exact setRow_below h.bel hl, fun x hx => ?_, fun j k x y hj hk hxy => ?_⟩
 ·obtain ⟨j, hj⟩ := List.mem_iff_getElem?.1 hx
  obtain ⟨y, hy, e1, e2, e3⟩ := fst j x hj
  by_cases e4 : j = i
  ·obtain rfl := e2 e4
   exact ⟨by subst e; exact setRow_heap _ _ _ _ _ _ hA, hl⟩
  ·obtain rfl := e3 e4
   have h9 := h.blk y (List.mem_of_getElem? hy)
   refine ⟨?_, h9.2⟩
   subst e
   rw [setRow_other _ _ _ _ (fun e5 => e4 (h.nd j i y _ hy hi e5))]
   exact h9.1
 ·obtain ⟨x', hx', e1, _⟩ := fst j x hj
  obtain ⟨y', hy', e2, _⟩ := fst k y hk
  exact h.nd j k x' y' hx' hy' (by rw [e1, e2, hxy])
theorem BkIn.cell {w0 W V : World} {bs : List Blk} (h : BkIn w0 W bs) (i : Nat) {A k : Nat} {c : Array Value} {t : TypeId} {v : Value} (hi : bs[i]? = some (A, c, t)) (e : W.setCell ⟨A, k, none⟩ v = V) : BkIn w0 V (bs.set i (A, c.setIfInBounds k v, t)) :=
 h.row i hi ((set_row (h.at i hi)).symm.trans e)
theorem BkIn.grown {w0 W V : World} {bs : List Blk} (h : BkIn w0 W bs) {row : Option Nat} (hg : W.grownBy V row) (hr : ∀ q, row = some q → w0.heap.size ≤ q ∧ ∀ x ∈ bs, x.1 ≠ q) (hb : Below w0.heap.size w0 V) : BkIn w0 V bs :=
 ⟨hb, fun x hx => ⟨(hg.block x.1 (at_lt (h.blk x hx).1) fun e => (hr x.1 e.symm).2 x hx rfl).trans (h.blk x hx).1, (h.blk x hx).2⟩, h.nd⟩
theorem StIn.cell {W V : World} {A k : Nat} {c : Array Value} {t : TypeId} {v : Value} {m : Mach} {S : ByteArray} {l : List Int} {p1 p2 : Option Addr} {c1 c2 : Nat} (h : StIn W m S l p1 p2 c1 c2) (hA : W.heap[A]? = some (.cells c t (0, 0))) (e : W.setCell ⟨A, k, none⟩ v = V) (ht : t ≠ 22 ∧ t ≠ 54) : StIn V m S l p1 p2 c1 c2 :=
 h.row hA ((set_row hA).symm.trans e) ht
theorem StIn.ram {W : World} {m : Mach} {S T : ByteArray} {l : List Int} {p1 p2 : Option Addr} {c1 c2 : Nat} (h : StIn W m S l p1 p2 c1 c2) (hT : T.size ≤ 8192) : StIn W m T l p1 p2 c1 c2 :=
 ⟨h.st, h.out, { h.ok with ram := fun j => byteI_bd T j }, h.spk, h.len, hT⟩
theorem StIn.load {w : World} {m : Mach} {S : ByteArray} {l : List Int} {p1 p2 : Option Addr} {c1 c2 : Nat} (h : StIn w m S l p1 p2 c1 c2) (hl : l.length ≤ 4096) : LoadIn w m S l p1 p2 c1 c2 := by
 obtain ⟨b1, h1⟩ := h.st
 obtain ⟨b2, h2⟩ := h.out
 exact ⟨own_rowSrc h1 (by decide), own_rowSrc h2 (by decide), hl, h.cap, h.ok.out⟩
theorem byteI_pre (a b : ByteArray) (j : Nat) (h : j < a.size) : byteI (a ++ b) j = byteI a j := by
 rw [← byteI_at (a ++ b) j (by rw [ByteArray.size_append]; omega), ← byteI_at a j h, ByteArray.getElem_append_left h]
theorem byteI_post (a b : ByteArray) (j : Nat) (h : j < b.size) : byteI (a ++ b) (a.size + j) = byteI b j := by
 rw [← byteI_at (a ++ b) (a.size + j) (by rw [ByteArray.size_append]; omega), ← byteI_at b j h, ByteArray.getElem_append_right (by omega)]
 congr 3
 omega
theorem byteI_zeros (S : ByteArray) (j : Nat) : byteI (S ++ ramS fun _ => 0) j = byteI S j := by
 by_cases hj : j < S.size
 ·exact byteI_pre _ _ _ hj
 ·rw [byteI_zero S j (by omega)]
  by_cases hk : j - S.size < (ramS fun _ => 0).size
  ·have h := byteI_post S (ramS fun _ => 0) (j - S.size) hk
   rw [show S.size + (j - S.size) = j by omega] at h
   rw [h]
   exact congrFun (byteI_ramS (fun _ => 0) (fun _ => ⟨Int.le_refl 0, by decide⟩) (fun _ _ => rfl)) _
  ·exact byteI_zero _ _ (by rw [ByteArray.size_append]; omega)
/-- A state with zeros behind its RAM, and another SP: the same when made normal. -/
theorem norm_wide (m : Mach) (S : ByteArray) (l : List Int) (x : Int) : normM { m with sp := x } (S ++ ramS fun _ => 0) l = normM m S l := by
 unfold normM
 simp only [byteI_zeros]
theorem StIn.wide {w : World} {m : Mach} {S : ByteArray} {l : List Int} {p1 p2 : Option Addr} {c1 c2 : Nat} (h : StIn w m S l p1 p2 c1 c2) {x : Int} (hx : OkU16 x) : NormIn w emptyE { m with sp := x } (S ++ ramS fun _ => 0) l p1 p2 := by
 have h9 := h.normE
 exact ⟨h9.strs, h9.inp, h9.irq, h9.st, h9.out, by rw [norm_wide]; exact h.ok, hx, h9.banks, h9.entry, h9.vector, h9.tin, h9.tirq, h9.tinv, h9.tirqv, by rw [ByteArray.size_append, ramS_size]; have := h.size; omega, h9.len⟩
theorem BkIn.kept {w0 W V : World} {bs : List Blk} (h : BkIn w0 W bs) {b e s n : Nat} {v : Value} {xs : List Value} (ho : W.ownsRow b e s v n xs) (hl : w0.heap.size ≤ b) (hg : W.grownBy V v.ownBlock) (ht : ∀ x ∈ bs, x.2.2 ≠ e) : BkIn w0 V bs := by
 have hq : ∀ q, v.ownBlock = some q → w0.heap.size ≤ q := fun q e1 => Nat.le_trans hl (ho.lt q e1).1
 refine h.grown hg (fun q e1 => ⟨hq q e1, fun x hx e2 => ?_⟩) (below_grown h.bel h.bel.size hg hq)
 obtain ⟨_, c', f, hk⟩ := own_kind ho _ e1
 have h9 := (h.blk x hx).1
 rw [e2, hk] at h9
 injection h9 with h9
 injection h9 with _ h9
 exact ht x hx h9.symm
theorem StIn.mach {W : World} {m m' : Mach} {S : ByteArray} {l : List Int} {p1 p2 : Option Addr} {c1 c2 : Nat} (h : StIn W m S l p1 p2 c1 c2) (ho : m'.out = m.out) (hok : (normM m' S l).Ok) (hs : OkU16 m'.sp) : StIn W m' S l p1 p2 c1 c2 := ⟨h.st, by rw [ho]; exact h.out, hok, hs, h.len, h.size⟩
theorem setR_ok {R : Nat → Int} {k : Nat} {x : Int} (h : ∀ k, OkU16 (R k)) (hx : OkU16 x) : ∀ j, OkU16 (setR R k x j) := fun j => by
 unfold setR
 split
 ·exact hx
 ·exact h j
/-- The second state, in its block. -/
def BState (w3 : World) (bb : Nat) (rest : List Blk) (V : World) : Prop := ∃ (mB : Mach) (SB : ByteArray) (lB : List Int) (pB p2 : Option Addr) (cB c2 : Nat), BkIn w3 V ((bb, snC mB SB (.slice pB lB.length cB) (.slice p2 mB.out.length c2), 43) :: rest) ∧ StIn V mB SB lB pB p2 cB c2 ∧ lB.length ≤ 4096
theorem st_norm {w V W0 : World} {m X : Mach} {S : ByteArray} {l : List Int} {p1 p2 q1 q2 : Option Addr} {c1 c2 d1 d2 : Nat} (h : StIn w m S l p1 p2 c1 c2) (hX : normM m S l = X) (hs : SnapIn W0 V X (.slice q1 X.st.length d1) (.slice q2 X.out.length d2)) : StIn V X (ramS X.ram) X.st q1 q2 d1 d2 ∧ normM X (ramS X.ram) X.st = X := by
 have hok : X.Ok := hX ▸ h.ok
 have hid := norm_id hok (hX ▸ normM_nz m S l h.size)
 exact ⟨⟨⟨_, hs.st⟩, ⟨_, hs.out⟩, by rw [hid]; exact hok, hok.sp, by have := hok.len; omega, by rw [ramS_size]; decide⟩, hid⟩
theorem same_tt {w w' : World} {X : Mach} {e : Ending} (h : SamePost w X X e w') : e = .returned (.bool true) ∧ Below w.heap.size w w' := by
 obtain ⟨b, rfl, hb, h9⟩ := h
 rw [hb.2 ⟨rfl, rfl, rfl, rfl⟩]
 exact ⟨rfl, h9⟩
theorem same_bb {w w' : World} {X Y : Mach} {e : Ending} {bs : Bool} (hs : bs = true ↔ SameM X Y) (h : SamePost w X Y e w') : e = .returned (.bool bs) ∧ Below w.heap.size w w' := by
 obtain ⟨b, rfl, hb, h9⟩ := h
 rw [Bool.eq_iff_iff.2 (hb.trans hs.symm)]
 exact ⟨rfl, h9⟩
theorem own_new1 {W : World} {e size : Nat} {cs : List Value} (h1 : cs.length = size) (h2 : ∀ u ∈ cs, u.oneCell' = true) (h3 : 0 < size) : (W.alloc (.cells cs.toArray e)).ownsRow W.heap.size e size (.slice (some ⟨W.heap.size, 0, none⟩) 1 1) 1 cs := by
 refine ⟨?_, .inr ⟨W.heap.size, 1, _, rfl, Nat.le_refl _, alloc_at W _, Nat.le_refl _, ?_, ?_, ?_⟩⟩
 all_goals first | exact h2 | (simp [h1]; done) | decide | (subst h1; simp)
theorem i64_ok (x : Int) : OkI64 (IntKind.i64.wrap x) := by
 rw [IntKind.wrap_i64]
 unfold OkI64
 omega
theorem StIn.ran {w9 WA W1 W2 : World} {Z T0 C T : Array Value} {m : Mach} {S : ByteArray} {l : List Int} {p1 p2 : Option Addr} {c1 c2 : Nat} (h : StIn w9 m S l p1 p2 c1 c2) (eA : (w9.alloc (.cells Z 43)).alloc (.cells T0 46) = WA) (e1 : WA.setRow w9.heap.size C = W1) (e2 : W1.setRow (w9.heap.size + 1) T = W2) : StIn W2 m S l p1 p2 c1 c2 := by
 have hb := (BkIn.two (bs := []) ⟨Below.refl w9.heap.size w9, fun x hx => (by cases hx), fun i j x y hi => (by simp at hi)⟩ eA)
 have hb1 := hb.row 1 rfl e1
 exact ((h.next hb.bel).row (hb.at 1 rfl) e1 (by decide)).row (hb1.at 0 rfl) e2 (by decide)
theorem own_old {W : World} {b e s n : Nat} {v : Value} {xs : List Value} (h : W.ownsRow b e s v n xs) : v.ownBlock = none ∨ v.ownBlock ≠ some W.heap.size := by
 cases e : v.ownBlock with
 | none => exact .inl rfl
 | some q =>
  refine .inr fun h9 => ?_
  have h8 := (h.lt q e).2
  injection h9 with h9
  omega
end Go.Proofs.Ytieaicdihingkaa
