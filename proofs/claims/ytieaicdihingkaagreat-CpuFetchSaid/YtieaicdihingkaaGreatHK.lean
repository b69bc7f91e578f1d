/- What the laws share: an image and a state in memory, and what a run leaves. -/
import Derived.Test.YtieaicdihingkaaGreatK32
namespace Go.Proofs.YtieaicdihingkaaGreat
set_option linter.unusedVariables false
set_option linter.unusedSimpArgs false
open Go.RowKit
/-- The cells of a state. -/
def snC (m : Mach) (S : ByteArray) (vs vo : Value) : Array Value := #[.int .u16 (m.R 0), .int .u16 (m.R 1), .int .u16 (m.R 2), .int .u16 (m.R 3), .int .u16 (m.R 4), .int .u16 (m.R 5), .int .u16 (m.R 6), .int .u16 (m.R 7), .int .u16 m.pc, .int .u16 m.sp, .int .u16 m.fp, .int .u16 m.f, .int .i64 m.bank, .int .i64 m.steps, .int .i64 m.inputs, .int .i64 m.polls, .string S, vs, vo]
theorem snC_one (m : Mach) (S : ByteArray) (p1 p2 : Option Addr) (n1 c1 n2 c2 : Nat) : (snC m S (.slice p1 n1 c1) (.slice p2 n2 c2)).all (·.oneCell') = true := by simp [snC, Value.oneCell']
theorem al_blk {w W : World} {o : Obj} (e : w.alloc o = W) : W.heap[w.heap.size]? = some o := e ▸ alloc_at w _
theorem al_bel {w W : World} {o : Obj} (e : w.alloc o = W) : Below w.heap.size w W := e ▸ below1 w o
theorem at_next {w W : World} {B : Nat} {o : Obj} (h : Below w.heap.size w W) (hb : w.heap[B]? = some o) : W.heap[B]? = some o := (h.block _ (Array.getElem?_eq_some_iff.1 hb).1).trans hb
theorem at_lt {w : World} {B : Nat} {o : Obj} (hb : w.heap[B]? = some o) : B < w.heap.size := (Array.getElem?_eq_some_iff.1 hb).1
theorem at_fr {w : World} {B : Nat} {c : Array Value} {t : TypeId} (h : w.heap[B]? = some (.cells c t (0, 0))) (k : Nat) : w.frozen? ⟨B, k, none⟩ = false := by unfold World.frozen?; rw [h]; simp
theorem sc_blk {w W : World} {B k : Nat} {c : Array Value} {t : TypeId} {f : Nat × Nat} {v : Value} (h : w.heap[B]? = some (.cells c t f)) (e : w.setCell ⟨B, k, none⟩ v = W) : W.heap[B]? = some (.cells (c.setIfInBounds k v) t f) := e ▸ setCell_blk h
theorem sc_oth {w W : World} {A B k : Nat} {o : Obj} {v : Value} (hne : A ≠ B) (h : w.heap[B]? = some o) (e : w.setCell ⟨A, k, none⟩ v = W) : W.heap[B]? = some o := e ▸ (Below.heap_setCell _ _ _ _ (fun e => hne e.symm)).trans h
theorem sc_bel {w0 w W : World} {A k : Nat} {v : Value} (h : Below w0.heap.size w0 w) (hA : w0.heap.size ≤ A) (e : w.setCell ⟨A, k, none⟩ v = W) : Below w0.heap.size w0 W := e ▸ h.setCell (p := ⟨A, k, none⟩) hA v
theorem sc_snap {W0 w W : World} {m : Mach} {vs vo : Value} {A k : Nat} {c : Array Value} {t : TypeId} {f : Nat × Nat} {v : Value} (hs : SnapIn W0 w m vs vo) (ht : t ≠ 22 ∧ t ≠ 51) (h : w.heap[A]? = some (.cells c t f)) (e : w.setCell ⟨A, k, none⟩ v = W) : SnapIn W0 W m vs vo :=
 e ▸ ⟨own_set' hs.st h ht.1, own_set' hs.out h ht.2⟩
/-- A state in memory, in a block made behind the world W0. -/
structure LawAt (W0 : World) (xB : Nat) (C : Array Value) (m0 : Mach) (vs vo : Value) (V : World) : Prop where
 bel : Below W0.heap.size W0 V
 x : V.heap[xB]? = some (.cells C 36 (0, 0))
 snap : SnapIn W0 V m0 vs vo
 low : W0.heap.size ≤ xB
theorem LawAt.set {W0 V V' : World} {xB k : Nat} {C : Array Value} {m0 : Mach} {vs vo v : Value} (h : LawAt W0 xB C m0 vs vo V) (e : V.setCell ⟨xB, k, none⟩ v = V') : LawAt W0 xB (C.setIfInBounds k v) m0 vs vo V' :=
 ⟨sc_bel h.bel h.low e, sc_blk h.x e, sc_snap h.snap (by decide) h.x e, h.low⟩
theorem LawAt.next {W0 V V' : World} {xB : Nat} {C : Array Value} {m0 : Mach} {vs vo : Value} (h : LawAt W0 xB C m0 vs vo V) (hb : Below V.heap.size V V') : LawAt W0 xB C m0 vs vo V' :=
 ⟨below_next h.bel hb, at_next hb h.x, h.snap.next hb, h.low⟩
theorem LawAt.cell {W0 V : World} {xB : Nat} {C : Array Value} {m0 : Mach} {vs vo : Value} (h : LawAt W0 xB C m0 vs vo V) (k : Nat) : V.cell? ⟨xB, k, none⟩ = C[k]? := Lib.cell_of_heap h.x k
/-- The state that Start gave is stored. -/
theorem law_start {W4 w5 W6 W7 : World} {C Z : Array Value} {m0 : Mach} {vs vo : Value} (h5 : Below W4.heap.size W4 w5) (hs : SnapIn W4 w5 m0 vs vo) (e6 : w5.alloc (.cells Z 36) = W6) (e7 : W6.setRow w5.heap.size C = W7) : LawAt W4 w5.heap.size C m0 vs vo W7 := by
 have h6 := al_bel e6
 have hx := al_blk e6
 subst e7
 exact ⟨setRow_below (below_next h5 h6) h5.size, setRow_heap _ _ _ _ _ _ hx, snap_row2 (by decide) hx (hs.next h6), h5.size⟩
theorem Snapped.cells {W V : World} {m : Mach} {S : ByteArray} {C : Array Value} (h : Snapped W m S (.agg C) V) : ∃ p c p2 c2, C = snC m S (.slice p m.st.length c) (.slice p2 m.out.length c2) ∧ SnapIn W V m (.slice p m.st.length c) (.slice p2 m.out.length c2) := by
 obtain ⟨p, c, p2, c2, e, hs⟩ := h
 injection e with e
 exact ⟨p, c, p2, c2, e, hs⟩
/-- What a run leaves: the state and the trap, stored. -/
structure RanAt (w w9 : World) (C T : Array Value) (m : Mach) (W0 : World) (vs vo : Value) (V : World) : Prop where
 bel : Below w.heap.size w V
 y : V.heap[w9.heap.size]? = some (.cells C 36 (0, 0))
 t : V.heap[w9.heap.size + 1]? = some (.cells T 39 (0, 0))
 snap : SnapIn W0 V m vs vo
theorem ran_a {w w9 WA : World} {Z T : Array Value} {m : Mach} {W0 : World} {vs vo : Value} (hb : Below w.heap.size w w9) (hs : SnapIn W0 w9 m vs vo) (e : (w9.alloc (.cells Z 36)).alloc (.cells T 39) = WA) : RanAt w w9 Z T m W0 vs vo WA := by
 subst e
 have h8 := alloc_at (w9.alloc (.cells Z 36)) (.cells T 39)
 rw [World.size_alloc] at h8
 exact ⟨below_alloc (below_alloc hb _) _, blk_mid1 w9 _ _, h8, (hs.next (below1 w9 _)).next (below1 _ _)⟩
theorem RanAt.row {w w9 V V' : World} {C C' T : Array Value} {m : Mach} {W0 : World} {vs vo : Value} (h : RanAt w w9 C T m W0 vs vo V) (hl : w.heap.size ≤ w9.heap.size) (e : V.setRow w9.heap.size C' = V') : RanAt w w9 C' T m W0 vs vo V' := by
 subst e
 exact ⟨setRow_below h.bel hl, setRow_heap _ _ _ _ _ _ h.y, (setRow_other _ _ _ _ (by omega)).trans h.t, snap_row2 (by decide) h.y h.snap⟩
theorem RanAt.row2 {w w9 V V' : World} {C T T' : Array Value} {m : Mach} {W0 : World} {vs vo : Value} (h : RanAt w w9 C T m W0 vs vo V) (hl : w.heap.size ≤ w9.heap.size) (e : V.setRow (w9.heap.size + 1) T' = V') : RanAt w w9 C T' m W0 vs vo V' := by
 subst e
 exact ⟨setRow_below h.bel (by omega), (setRow_other _ _ _ _ (by omega)).trans h.y, setRow_heap _ _ _ _ _ _ h.t, snap_row2 (by decide) h.t h.snap⟩
theorem RanAt.next {w w9 V V' : World} {C T : Array Value} {m : Mach} {W0 : World} {vs vo : Value} (h : RanAt w w9 C T m W0 vs vo V) (hb : Below V.heap.size V V') : RanAt w w9 C T m W0 vs vo V' :=
 ⟨below_next h.bel hb, at_next hb h.y, at_next hb h.t, h.snap.next hb⟩
theorem norm_like {m : Mach} (hs : m.sp = 2) (ht : m.st = [0, 65535]) (hr : m.ram = fun _ => 0) : normM m (ramS fun _ => 0) [0, 65535] = m := by
 have h := norm_startM 0
 unfold normM at h ⊢
 have h1 : (fun j => byteI (ramS fun _ => 0) j) = fun _ => (0 : Int) := congrArg Mach.ram h
 rw [h1]
 obtain ⟨⟩ := m
 simp only at hs ht hr
 subst hs ht hr
 rfl
/-- A state that begins like Start's, for Run, Step and Call. -/
theorem law_in {w W0 : World} {E : Env} {m m0 : Mach} {p1 p2 : Option Addr} {c1 c2 : Nat} (hst : StrsLow w.heap.size w E.pb E.banks) (hs : SnapIn W0 w m0 (.slice p1 2 c1) (.slice p2 0 c2)) (h0 : m0.st = [0, 65535]) (hm : m.sp = 2 ∧ m.st = [0, 65535] ∧ m.ram = (fun _ => 0) ∧ m.out = []) (hok : m.Ok)
  (hin : RowLow w.heap.size w E.pin .u16 E.tin) (hirq : RowLow w.heap.size w E.pirq .u8 E.tirq) (hb : E.banks.length ≤ maxLen) (he : OkU16 E.entry) (hv : OkU16 E.vector) (l1 : E.tin.length ≤ maxLen) (l2 : E.tirq.length ≤ maxLen) (v1 : ∀ x ∈ E.tin, OkU16 x) (v2 : ∀ x ∈ E.tirq, 0 ≤ x ∧ x < 256) :
  NormIn w E m (ramS fun _ => 0) [0, 65535] p1 p2 ∧ 2 ≤ c1 := by
 obtain ⟨a1, a2, a3, a4⟩ := hm
 have hst1 := hs.st
 rw [h0] at hst1
 refine ⟨⟨hst, hin, hirq, own_sliceAt hst1, .inl (by rw [a4]; rfl), by rw [norm_like a1 a2 a3]; exact hok, by rw [a1]; exact ok16_2, hb, he, hv, l1, l2, v1, v2, by rw [ramS_size]; decide, by decide⟩, ?_⟩
 rcases hst1.2 with ⟨_, h0⟩ | ⟨q, cq, cur, e1, _, _, hnc, _⟩
 ·exact absurd h0 (by decide)
 ·injection e1 with _ _ e3
  subst e3
  exact hnc
theorem row_none (w : World) (b : Nat) (kd : IntKind) : RowLow b w none kd [] := fun k n hk => by cases hk
end Go.Proofs.YtieaicdihingkaaGreat
namespace Go.Proofs.YtieaicdihingkaaGreat
open Go.RowKit
theorem fields39 : Tryz.prog.underlying 32 = some (.struct (Tryz.prog.fieldsOf 32)) := by kernel_rfl
theorem stood39 : Tryz.prog.stoodInHeld 32 = false := by kernel_rfl
def stC (m : Mach) : Array Value := #[.int .u16 (m.R 0), .int .u16 (m.R 1), .int .u16 (m.R 2), .int .u16 (m.R 3), .int .u16 (m.R 4), .int .u16 (m.R 5), .int .u16 (m.R 6), .int .u16 (m.R 7), .int .u16 m.pc, .int .u16 m.sp, .int .u16 m.fp, .int .u16 m.f, .int .i64 m.bank, .int .i64 m.steps, .int .i64 m.inputs, .int .i64 m.polls]
def emptyE : Env := { imgE 0 ⟨#[]⟩ with pb := none, cb := 0, banks := [] }
/-- A machine that normal made: where it lies. -/
def MR (m : Mach) (v : Value) (V : World) : Prop := ∃ B g bs sv ov, v = .pointer (some ⟨B, 0, none⟩) ∧ MachAt { emptyE with B := B, ramB := g, base := bs } V m sv ov
theorem MR.next {m : Mach} {v : Value} {V W : World} (h : MR m v V) (hb : Below V.heap.size V W) : MR m v W := by
 obtain ⟨B, g, bs, sv, ov, rfl, hm⟩ := h
 exact ⟨B, g, bs, sv, ov, rfl, hm.next hb⟩
open Go.RowKit
theorem sr_blk {w W : World} {A : Nat} {C c : Array Value} {t : TypeId} {f : Nat × Nat} (h : w.heap[A]? = some (.cells c t f)) (e : w.setRow A C = W) : W.heap[A]? = some (.cells C t f) := e ▸ setRow_heap _ _ _ C _ _ h
theorem sr_oth {w W : World} {A B : Nat} {C : Array Value} {o : Obj} (hne : A ≠ B) (h : w.heap[B]? = some o) (e : w.setRow A C = W) : W.heap[B]? = some o := e ▸ (setRow_other w A B C (fun e => hne e.symm)).trans h
theorem sr_bel {w0 w W : World} {A : Nat} {C : Array Value} (h : Below w0.heap.size w0 w) (hA : w0.heap.size ≤ A) (e : w.setRow A C = W) : Below w0.heap.size w0 W := e ▸ setRow_below h hA
theorem sr_snap {W0 w W : World} {m : Mach} {vs vo : Value} {A : Nat} {c C : Array Value} {t : TypeId} (hs : SnapIn W0 w m vs vo) (ht : t ≠ 22 ∧ t ≠ 51) (h : w.heap[A]? = some (.cells c t (0, 0))) (e : w.setRow A C = W) : SnapIn W0 W m vs vo := e ▸ snap_row2 ht h hs
end Go.Proofs.YtieaicdihingkaaGreat
