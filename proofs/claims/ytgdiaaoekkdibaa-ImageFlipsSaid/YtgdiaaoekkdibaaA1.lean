/- A row of bytes beside an image that a call makes; numbers of a list by existence; Mod by existence. -/
import Derived.Test.YtgdiaaoekkdibaaA0
import Derived.Test.YtgdiaaoekkdibaaI10
import Derived.Test.YtgdiaaoekkdibaaE2
import Derived.Test.YtgdiaaoekkdibaaP4
import Derived.Deep.OwnRows
namespace Go.Proofs.Ytgdiaaoekkdibaa
set_option linter.unusedVariables false
set_option linter.unusedSimpArgs false
open Go.RowKit
theorem last6a {A1 A2 A3 A4 A5 A6 : Prop} (h : A1 ∧ A2 ∧ A3 ∧ A4 ∧ A5 ∧ A6) : A6 := h.2.2.2.2.2
def RowF (w : World) (R : Nat) (F : Nat → Int) : Prop := w.rowIs R 5 4096 (fun j => .int .u8 (F j))
theorem rowF_zero (w : World) : RowF (w.alloc (.cells zrow 5)) w.heap.size (fun _ => 0) := zrow_is w
theorem rowF_next {w w' : World} {R : Nat} {F : Nat → Int} (h : RowF w R F) (hb : Below w.heap.size w w') : RowF w' R F := World.rowIs.of_block h (hb.block R (World.rowIs.lt h))
theorem rowF_set {w : World} {R : Nat} {F : Nat → Int} (h : RowF w R F) (i : Nat) (v : Int) : RowF (w.setCell ⟨R, i, none⟩ (.int .u8 v)) R (setF F i v) := by
  refine World.rowIs.congr (World.rowIs.set h i (.int .u8 v)) (fun j _ => ?_)
  unfold setF
  split <;> rfl
theorem rowF_far {w : World} {R N i : Nat} {F : Nat → Int} {u : Value} (h : RowF w R F) (hN : R ≠ N) : RowF (w.setCell ⟨N, i, none⟩ u) R F := World.rowIs.setOther h hN u
theorem rowF_own {w : World} {R base e size n : Nat} {F : Nat → Int} {v : Value} {xs : List Value} (h : RowF w R F) (ho : w.ownsRow base e size v n xs) (he : e ≠ 5) : v.ownBlock ≠ some R := by
  rcases ho.2 with ⟨rfl, _⟩ | ⟨g, cap, cur, rfl, _, hg, _⟩
  · simp [Value.ownBlock]
  · obtain ⟨c, hb, _, _⟩ := h
    simp only [Value.ownBlock, ne_eq, Option.some.injEq]
    intro e2
    subst e2
    rw [hb] at hg
    simp only [Option.some.injEq, Obj.cells.injEq] at hg
    exact he hg.2.1.symm
theorem rowF_grow {w w1 : World} {R base e size n : Nat} {F : Nat → Int} {v : Value} {xs : List Value} (h : RowF w R F) (ho : w.ownsRow base e size v n xs) (he : e ≠ 5) (hg : w.grownBy w1 v.ownBlock) : RowF w1 R F :=
  World.rowIs.of_block h (hg.block R (World.rowIs.lt h) (fun e2 => rowF_own h ho he e2.symm))
theorem own_far {w : World} {R base e size n j : Nat} {F : Nat → Int} {v u : Value} {xs : List Value} (h : RowF w R F) (ho : w.ownsRow base e size v n xs) (he : e ≠ 5) : (w.setCell ⟨R, j, none⟩ u).ownsRow base e size v n xs :=
  ho.kept (row := some R) ⟨rfl, rfl, rfl, by simp, fun k hk hne => Below.heap_setCell _ _ _ _ (fun e => hne (by rw [e]))⟩ (.inr (rowF_own h ho he))
theorem Mk.setRow {B N R : Nat} {w0 w : World} {I : Img} {v1 v2 v3 : Value} {F : Nat → Int} (h : Mk B N w0 w I v1 v2 v3) (hr : RowF w R F) (hN : N < R) (j : Nat) (u : Value) : Mk B N w0 (w.setCell ⟨R, j, none⟩ u) I v1 v2 v3 := by
  have ne : ∀ i, (⟨R, j, none⟩ : Addr) ≠ ⟨N, i, none⟩ := fun i e => by injection e with e1; omega
  have hc : ∀ i, (w.setCell ⟨R, j, none⟩ u).cell? ⟨N, i, none⟩ = w.cell? ⟨N, i, none⟩ := fun i => World.cell?_setCell_other _ _ _ _ (ne i)
  have hf : ∀ i, (w.setCell ⟨R, j, none⟩ u).frozen? ⟨N, i, none⟩ = w.frozen? ⟨N, i, none⟩ := fun i => frozen_set' _ _ _ _
  exact ⟨(hc 0).trans h.i0, (hc 1).trans h.i1, (hc 2).trans h.i2, (hc 3).trans h.i3, (hc 4).trans h.i4, (hf 0).trans h.f0, (hf 3).trans h.f3, (hf 4).trans h.f4,
    own_far hr h.o1 (by decide), own_far hr h.o2 (by decide), own_far hr h.o3 (by decide), h.hN, by have := h.hw; simp; omega, h.below.setCell (by have := h.hN; show B ≤ R; omega) _⟩
theorem row_conv (W : World) (R : Nat) (F : Nat → Int) (h : RowF W R F) (hF : ∀ j, 0 ≤ F j ∧ F j < 256) : (convert 36 9 (.slice (some ⟨R, 0, none⟩) 4096 4096)).run Try.prog W = .ok (.string (rowS F)) W := by
  have hh := run_convert_bytes_back (P := Try.prog) W 36 9 5 ⟨R, 0, none⟩ 4096 (rowL F) Try.underlying36 Try.underlying5 Try.underlying9 (by
    intro j hj
    have hl := rowL_len F
    have hj' : j < 4096 := by omega
    have e1 := rowL_at F j hj'
    rw [List.getElem?_eq_getElem hj] at e1
    have ea : (⟨R, 0, none⟩ : Addr).add j = ⟨R, j, none⟩ := by simp [Addr.add]; exact fun h => h.symm
    rw [Option.some.inj e1, ea, World.rowIs.cell h hj', u8_nat _ (hF j).1 (hF j).2])
  rw [rowL_len] at hh
  exact hh
theorem u8_bd (n : Int) : 0 ≤ IntKind.u8.wrap n ∧ IntKind.u8.wrap n < 256 := by rw [IntKind.wrap_u8]; omega
theorem mod_var (n m : Int) (hn : OkI64 n) (h1 : 1 ≤ m) (h2 : m ≤ 4611686018427387904) :
    ∃ r : Int, 0 ≤ r ∧ r < m ∧ ∀ w : World, Calls Try.prog 20 #[.int .i64 n, .int .i64 m] w fun e w' => e = .returned (.int .i64 r) ∧ w = w' :=
  ⟨n % m, Int.emod_nonneg n (by omega), Int.emod_lt_of_pos n (by omega), fun w => mod_any n m w hn h1 h2⟩
theorem ints_ok {w : World} {p : Option Addr} {L : List Int} (h : IntsAt w p L) (k : Nat) : OkI64 ((L[k]?).getD 0) := by
  by_cases hk : k < L.length
  · obtain ⟨n, hn⟩ := at_some L k hk
    obtain ⟨_, _, _, _, _, ok⟩ := h k n hn
    rw [hn]; exact ok
  · rw [List.getElem?_eq_none (by omega)]; exact ⟨by decide, by decide⟩
theorem at_var {w : World} {p : Option Addr} {L : List Int} (cap : Nat) (m : Int) (k : Nat) (hm : m = k) (h : IntsAt w p L) (hl : L.length ≤ maxLen) (hk : k < 1000000) :
    ∃ g : Int, OkI64 g ∧ ∀ w' : World, Below w.heap.size w w' → Calls Try.prog 43 #[.slice p L.length cap, .int .i64 m] w' fun e w2 => e = .returned (.int .i64 g) ∧ w' = w2 := by
  subst hm
  exact ⟨(L[k]?).getD 0, ints_ok h k, fun w' hb => at_any p cap L k w' hl (h.kept hb) (by omega)⟩
theorem tdiv_ok (n d : Int) (hn : OkI64 n) (hd : 2 ≤ d) : OkI64 (n.tdiv d) := by
  obtain ⟨h0, h1⟩ := hn
  have a := Int.tdiv_mul_add_tmod n d
  by_cases h : 0 ≤ n
  · rw [Int.tdiv_eq_ediv_of_nonneg h]
    have := Int.ediv_le_self d h
    exact ⟨by have := Int.ediv_nonneg h (show 0 ≤ d by omega); omega, by omega⟩
  · have e : n.tdiv d = -((-n).tdiv d) := by rw [Int.neg_tdiv, Int.neg_neg]
    rw [e, Int.tdiv_eq_ediv_of_nonneg (by omega)]
    have h2 := Int.ediv_nonneg (show 0 ≤ -n by omega) (show 0 ≤ d by omega)
    have h3 := Int.ediv_le_self d (show 0 ≤ -n by omega)
    constructor <;> omega
/-- What Drawn hands back. -/
def DrawnPost (w : World) (e : Ending) (w' : World) : Prop :=
  ∃ (I : Img) (p1 : Option Addr) (c1 : Nat) (p2 : Option Addr) (c2 : Nat) (p3 : Option Addr) (c3 : Nat), e = .returned (imgV p1 c1 p2 c2 p3 c3 I) ∧ ImgAt w' p1 p2 p3 I ∧ checkI I = 0 ∧ I.banks.length ≤ 3 ∧ I.data.length ≤ 28 ∧ I.relocs.length ≤ 78 ∧ Below w.heap.size w w'
def drawW (w : World) : World := w.alloc (Obj.cells #[Value.slice none 0 0, Value.int IntKind.u16 0, Value.int IntKind.u16 0, Value.slice none 0 0, Value.slice none 0 0] 30)
theorem draw_start (W0 : World) (e v : Int) : Mk W0.heap.size W0.heap.size W0 (W0.alloc (Obj.cells #[Value.slice none 0 0, Value.int IntKind.u16 e, Value.int IntKind.u16 v, Value.slice none 0 0, Value.slice none 0 0] 30)) ⟨[], e, v, [], []⟩ (.slice none 0 0) (.slice none 0 0) (.slice none 0 0) := by
  refine ⟨?_, ?_, ?_, ?_, ?_, ?_, ?_, ?_, World.ownsRow_nil _ _ _ _, World.ownsRow_nil _ _ _ _, World.ownsRow_nil _ _ _ _, Nat.le_refl _, ?_, below1 _ _⟩ <;> simp [go_sem]
/-- A number of a list, at an index: its cell later on. -/
theorem ints_cell {w : World} {p : Option Addr} {L : List Int} (h : IntsAt w p L) (k : Nat) (hk : k < L.length) : ∃ (x : Int) (Bs off : Nat), p = some ⟨Bs, off, none⟩ ∧ OkI64 x ∧ Bs < w.heap.size ∧ ∀ w' : World, Below w.heap.size w w' → w'.cell? ⟨Bs, off + k, none⟩ = some (.int .i64 x) := by
  obtain ⟨x, hx⟩ := at_some L k hk
  obtain ⟨Bs, off, e, hB, hc, ok⟩ := h k x hx
  exact ⟨x, Bs, off, e, ok, hB, fun w' hb => (hb.cell hB).trans hc⟩
theorem ram_obj {nb b : Nat} {ram : List ObjI} {I : Img} (h : DrawnTo nb b ram I) (k : Nat) (hl : k < ram.length) :
    ∃ o : ObjI, I.data[k]? = some o ∧ o.bank = -1 ∧ 16384 ≤ o.addr ∧ o.addr ≤ 24576 ∧ 1 ≤ o.size ∧ o.size ≤ 50 ∧ ∀ d, 0 ≤ d → d < o.size → hit I.data (o.addr + d) ∧ 0 ≤ o.addr + d ∧ o.addr + d < 65536 := by
  obtain ⟨rest, hr⟩ := h.data
  obtain ⟨o, ho⟩ := at_some ram k hl
  have hk : I.data[k]? = some o := by rw [hr, List.getElem?_append_left hl]; exact ho
  obtain ⟨x1, x2, x3, x4, x5⟩ := h.ram o (List.mem_of_getElem? ho)
  refine ⟨o, hk, x1, x2, by omega, x3, x4, fun d d0 d1 => ?_⟩
  obtain ⟨y1, y2, y3, _⟩ := ram_hit h o k hk hl d d0 d1
  exact ⟨y1, y2, y3⟩
/-- An object's cells, where the list of an image that is being made holds it. -/
theorem obj_cells {B N : Nat} {w0 w : World} {I : Img} {v1 v2 v3 : Value} (h : Mk B N w0 w I v1 v2 v3) (k : Nat) (o : ObjI) (hk : I.data[k]? = some o) :
    ∃ (g c : Nat), v2 = .slice (some ⟨g, 0, none⟩) I.data.length c ∧ g < w.heap.size ∧ w.cell? ⟨g, k * 3, none⟩ = some (.int .i64 o.bank) ∧ w.cell? ⟨g, k * 3 + 1, none⟩ = some (.int .u16 o.addr) ∧ w.cell? ⟨g, k * 3 + 2, none⟩ = some (.int .u16 o.size) := by
  obtain ⟨p, c, rfl, hp⟩ := own_slice h.o2
  rcases hp with hp | ⟨g, rfl, hg, _, hc⟩
  · rw [List.eq_nil_of_length_eq_zero hp] at hk; simp at hk
  · exact ⟨g, c, rfl, hg, hc (k * 3) _ (flat_get ObjI.cells 3 I.data (fun _ => rfl) k 0 o hk (by decide)), hc (k * 3 + 1) _ (flat_get ObjI.cells 3 I.data (fun _ => rfl) k 1 o hk (by decide)), hc (k * 3 + 2) _ (flat_get ObjI.cells 3 I.data (fun _ => rfl) k 2 o hk (by decide))⟩
theorem mod_var' (n m : Int) (hn : OkI64 n) (h1 : 1 ≤ m) (h2 : m ≤ 4611686018427387904) :
    ∃ r : Nat, (r : Int) < m ∧ ∀ w : World, Calls Try.prog 20 #[.int .i64 n, .int .i64 m] w fun e w' => e = .returned (.int .i64 (r : Int)) ∧ w' = w := by
  obtain ⟨r, a, b, h⟩ := mod_var n m hn h1 h2
  obtain ⟨k, rfl⟩ : ∃ k : Nat, r = k := ⟨r.toNat, by omega⟩
  exact ⟨k, b, fun w => (h w).mono fun _ _ ⟨x, y⟩ => ⟨x, y.symm⟩⟩
theorem Mk.low {B N M B' : Nat} {w0 w w' : World} {I : Img} {v1 v2 v3 : Value} (h : Mk B N w0 w I v1 v2 v3) (hbel : Below B' w' w) (hB : B' ≤ M) (hM : M < N) (j : Nat) (u : Value) : Mk B' N w' (w.setCell ⟨M, j, none⟩ u) I v1 v2 v3 := by
  have ne : ∀ i, (⟨M, j, none⟩ : Addr) ≠ ⟨N, i, none⟩ := fun i e => by injection e with e1; omega
  have hc : ∀ i, (w.setCell ⟨M, j, none⟩ u).cell? ⟨N, i, none⟩ = w.cell? ⟨N, i, none⟩ := fun i => World.cell?_setCell_other _ _ _ _ (ne i)
  have hf : ∀ i, (w.setCell ⟨M, j, none⟩ u).frozen? ⟨N, i, none⟩ = w.frozen? ⟨N, i, none⟩ := fun i => frozen_set' _ _ _ _
  exact ⟨(hc 0).trans h.i0, (hc 1).trans h.i1, (hc 2).trans h.i2, (hc 3).trans h.i3, (hc 4).trans h.i4, (hf 0).trans h.f0, (hf 3).trans h.f3, (hf 4).trans h.f4,
    own_set h.o1 (by omega), own_set h.o2 (by omega), own_set h.o3 (by omega), by omega, by have := h.hw; simp; omega, hbel.setCell hB _⟩
theorem drawn_img {B N nb b : Nat} {w0 w : World} {ram : List ObjI} {I : Img} {v1 v2 v3 : Value} (h : Mk B N w0 w I v1 v2 v3) (hd : DrawnTo nb b ram I) (hb : b ≤ 3) (hn : nb ≤ 3) (l2 : I.data.length ≤ 100) (l3 : I.relocs.length ≤ 100) :
    ∃ (p1 : Option Addr) (c1 : Nat) (p2 : Option Addr) (c2 : Nat) (p3 : Option Addr) (c3 : Nat), v1 = .slice p1 I.banks.length c1 ∧ v2 = .slice p2 I.data.length c2 ∧ v3 = .slice p3 I.relocs.length c3 ∧ ImgAt w p1 p2 p3 I := by
  obtain ⟨e0, e1⟩ := hd.entry
  obtain ⟨f0, f1⟩ := hd.vector
  have hc := hd.count
  refine h.img (fun s hs => by rw [hd.full s hs]; decide) (fun o ho => (hd.good o ho).2) (fun r hr => ?_) ⟨e0, by omega⟩ ⟨f0, by omega⟩ (by unfold maxLen; omega) (by unfold maxLen; omega) (by unfold maxLen; omega)
  obtain ⟨a, b', c, d⟩ := hd.rgood r hr
  exact ⟨⟨by omega, by omega⟩, ⟨c, by omega⟩⟩
theorem mod_varN (n m : Int) (hn : OkI64 n) (h1 : 1 ≤ m) (h2 : m ≤ 4611686018427387904) :
    ∃ r : Nat, (r : Int) < m ∧ ∀ w : World, Calls Try.prog 20 #[.int .i64 n, .int .i64 m] w fun e w' => e = .returned (.int .i64 (r : Int)) ∧ w = w' := by
  obtain ⟨r, a, b, h⟩ := mod_var n m hn h1 h2
  obtain ⟨k, rfl⟩ : ∃ k : Nat, r = k := ⟨r.toNat, by omega⟩
  exact ⟨k, b, h⟩
end Go.Proofs.Ytgdiaaoekkdibaa
