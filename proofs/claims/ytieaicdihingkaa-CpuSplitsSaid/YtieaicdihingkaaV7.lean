/- Tape and the setup of the laws, by what they are like. -/
import Derived.Test.YtieaicdihingkaaV6
import Derived.Deep.AppendLies
namespace Go.Proofs.Ytieaicdihingkaa
set_option linter.unusedVariables false
set_option linter.unusedSimpArgs false
open Go.RowKit
/-- A tape that is being filled. -/
structure TapeS (w wr : World) (TB : Nat) (vi vq : Value) (li lq : List Int) : Prop where
 bel : Below w.heap.size w wr
 low : w.heap.size ≤ TB
 tb : wr.heap[TB]? = some (.cells #[vi, vq] 51 (0, 0))
 inp : wr.ownsRow w.heap.size 22 1 vi li.length (li.map (Value.int .u16))
 irq : wr.ownsRow w.heap.size 5 1 vq lq.length (lq.map (Value.int .u8))
 oki : ∀ x ∈ li, OkU16 x
 okq : ∀ x ∈ lq, 0 ≤ x ∧ x < 256
theorem TapeS.next {w wr W : World} {TB : Nat} {vi vq : Value} {li lq : List Int} (h : TapeS w wr TB vi vq li lq) (hb : Below wr.heap.size wr W) : TapeS w W TB vi vq li lq :=
 ⟨below_next h.bel hb, h.low, at_next hb h.tb, own_next h.inp hb, own_next h.irq hb, h.oki, h.okq⟩
theorem kinds_ne {w : World} {b1 b2 e1 e2 s1 s2 n1 n2 : Nat} {v u : Value} {xs ys : List Value} (h1 : w.ownsRow b1 e1 s1 v n1 xs) (h2 : w.ownsRow b2 e2 s2 u n2 ys) (he : e1 ≠ e2) : u.ownBlock = none ∨ u.ownBlock ≠ v.ownBlock := by
 cases e : u.ownBlock with
 | none => exact .inl rfl
 | some q =>
  refine .inr fun e2 => ?_
  obtain ⟨_, c, f, hk⟩ := own_kind h2 _ e
  obtain ⟨_, c', f', hk'⟩ := own_kind h1 _ e2.symm
  rw [hk] at hk'
  simp at hk'
  exact he hk'.2.1.symm
theorem TapeS.pushI {w wr W : World} {TB : Nat} {vi vq v : Value} {li lq : List Int} {x : Int} (h : TapeS w wr TB vi vq li lq) (hx : OkU16 x) (hown : W.ownsRow w.heap.size 22 1 v (li.length + 1) (li.map (Value.int .u16) ++ [.int .u16 x])) (hg : wr.grownBy W vi.ownBlock) : TapeS w (W.setCell ⟨TB, 0, none⟩ v) TB v vq (li ++ [x]) lq ∧ W.cell? ⟨TB, 0, none⟩ = some vi ∧ W.frozen? ⟨TB, 0, none⟩ = false := by
 have hne : some TB ≠ vi.ownBlock := fun e => by
  obtain ⟨_, c, f, hk⟩ := own_kind h.inp _ e.symm
  rw [h.tb] at hk
  simp at hk
 have htb : W.heap[TB]? = some (.cells #[vi, vq] 51 (0, 0)) := (hg.block TB (at_lt h.tb) hne).trans h.tb
 have hoth := h.irq.kept hg (kinds_ne h.inp h.irq (by decide))
 refine ⟨⟨(below_grown h.bel h.bel.size hg (fun q hq => (h.inp.lt q hq).1)).setCell (p := ⟨TB, 0, none⟩) h.low v, h.low, sc_blk htb rfl, own_set' (by rw [List.length_append, List.map_append]; exact hown) htb (by decide), own_set' hoth htb (by decide), (fun y hy => by rcases List.mem_append.1 hy with hy | hy; exact h.oki y hy; obtain rfl := List.mem_singleton.1 hy; exact hx), h.okq⟩, Lib.cell_of_heap htb 0, at_fr htb 0⟩
theorem TapeS.pushQ {w wr W : World} {TB : Nat} {vi vq v : Value} {li lq : List Int} {x : Int} (h : TapeS w wr TB vi vq li lq) (hx : 0 ≤ x ∧ x < 256) (hown : W.ownsRow w.heap.size 5 1 v (lq.length + 1) (lq.map (Value.int .u8) ++ [.int .u8 x])) (hg : wr.grownBy W vq.ownBlock) : TapeS w (W.setCell ⟨TB, 1, none⟩ v) TB vi v li (lq ++ [x]) ∧ W.cell? ⟨TB, 1, none⟩ = some vq ∧ W.frozen? ⟨TB, 1, none⟩ = false := by
 have hne : some TB ≠ vq.ownBlock := fun e => by
  obtain ⟨_, c, f, hk⟩ := own_kind h.irq _ e.symm
  rw [h.tb] at hk
  simp at hk
 have htb : W.heap[TB]? = some (.cells #[vi, vq] 51 (0, 0)) := (hg.block TB (at_lt h.tb) hne).trans h.tb
 have hoth := h.inp.kept hg (kinds_ne h.irq h.inp (by decide))
 refine ⟨⟨(below_grown h.bel h.bel.size hg (fun q hq => (h.irq.lt q hq).1)).setCell (p := ⟨TB, 1, none⟩) h.low v, h.low, sc_blk htb rfl, own_set' hoth htb (by decide), own_set' (by rw [List.length_append, List.map_append]; exact hown) htb (by decide), h.oki, (fun y hy => by rcases List.mem_append.1 hy with hy | hy; exact h.okq y hy; obtain rfl := List.mem_singleton.1 hy; exact hx)⟩, Lib.cell_of_heap htb 1, at_fr htb 1⟩
theorem tape_keep {wr W : World} {b e n q : Nat} {v : Value} {xs : List Value} {c : Array Value} (h : wr.ownsRow b e 1 v n xs) (he : e ≠ 51) (hg : wr.grownBy W v.ownBlock) (hq : wr.heap[q]? = some (.cells c 51 (0, 0))) : W.heap[q]? = some (.cells c 51 (0, 0)) :=
 (hg.block q (at_lt hq) (fun e2 => by
  obtain ⟨_, c', f, hk⟩ := own_kind h _ e2.symm
  rw [hq] at hk
  simp at hk
  exact he hk.2.1.symm)).trans hq
structure TapeAt (w : World) (pin pirq : Option Addr) (cin cirq : Nat) (tin tirq : List Int) : Prop where
 inp : ∃ b, w.ownsRow b 22 1 (.slice pin tin.length cin) tin.length (tin.map (Value.int .u16))
 irq : ∃ b, w.ownsRow b 5 1 (.slice pirq tirq.length cirq) tirq.length (tirq.map (Value.int .u8))
 len : tin.length ≤ 40 ∧ tirq.length ≤ 40
 oki : ∀ x ∈ tin, OkU16 x
 okq : ∀ x ∈ tirq, 0 ≤ x ∧ x < 256
def TapePost (w : World) (e : Ending) (w' : World) : Prop := ∃ pin cin tin pirq cirq tirq, e = .returned (.agg #[.slice pin tin.length cin, .slice pirq tirq.length cirq]) ∧ TapeAt w' pin pirq cin cirq tin tirq ∧ Below w.heap.size w w'
theorem own_rowLow {w : World} {b e n c : Nat} {p : Option Addr} {k : IntKind} {l : List Int} (h : w.ownsRow b e 1 (.slice p n c) n (l.map (Value.int k))) : RowLow w.heap.size w p k l := by
 rcases own_src h with h0 | ⟨g, rfl, hg, hc⟩
 ·intro j x hj
  have h1 := h.1
  rw [List.length_map] at h1
  have := (List.getElem?_eq_some_iff.1 hj).1
  omega
 ·intro j x hj
  exact ⟨g, 0, rfl, hg, by rw [Nat.zero_add]; exact hc j _ (by rw [List.getElem?_map, hj]; rfl)⟩
theorem winfo5 : ∃ i, Try.prog.info? 5 = some i ∧ i.zero = some (.int .u8 0) ∧ i.size = 1 ∧ i.bytes = 1 := by
 have := info5
 cases h : Try.prog.info? 5 with
 | none => rw [h] at this; cases this
 | some x => rw [h] at this; simp at this; exact ⟨x, rfl, this⟩
theorem winfo22 : ∃ i, Try.prog.info? 22 = some i ∧ i.zero = some (.int .u16 0) ∧ i.size = 1 ∧ i.bytes = 2 := by
 have := info22
 cases h : Try.prog.info? 22 with
 | none => rw [h] at this; cases this
 | some x => rw [h] at this; simp at this; exact ⟨x, rfl, this⟩
set_option maxRecDepth 20000 in
set_option maxHeartbeats 8000000 in
theorem tape_some (p : Option Addr) (n cap : Nat) (L : List Int) (w : World) (hp : RowLow w.heap.size w p .i64 L) (hn : L.length = n) (hl : n ≤ 9223372036854775807) : Calls Try.prog 41 #[.slice p n cap] w (TapePost w) := by
 have HP := Lib.hid hp
 have HN := Lib.hid hn
 clear hp hn
 go_enter Try.func41, Try.ntmps41
 go_wp2_with fail
 generalize e0 : (w.alloc _).alloc _ = W0
 have HR0 : Hid (W0.heap[w.heap.size]? = some (.cells #[.slice none 0 0, .slice none 0 0] 51 (0, 0))) := Lib.hid (e0 ▸ blk_mid1 w _ _)
 have HT0 : Hid (TapeS w W0 (w.heap.size + 1) (.slice none 0 0) (.slice none 0 0) [] []) := Lib.hid (by
  have h9 := alloc_at (w.alloc (.cells #[.slice none 0 0, .slice none 0 0] 51)) (.cells #[.slice none 0 0, .slice none 0 0] 51)
  rw [World.size_alloc] at h9
  exact ⟨e0 ▸ below_alloc (below1 w _) _, Nat.le_succ _, e0 ▸ h9, World.ownsRow_nil _ _ _ _, World.ownsRow_nil _ _ _ _, (fun x hx => by cases hx), (fun x hx => by cases hx)⟩)
 have HLT0 : Hid (w.heap.size < W0.heap.size) := Lib.hid (at_lt HR0.out)
 clear e0
 go_loopw [4] (fun i_ wr => ∃ (k : Nat) (vi vq : Value) (li lq : List Int), i_ = .int .i64 (k : Int) ∧ k ≤ n ∧ k ≤ 40 ∧ li.length = k ∧ lq.length = k ∧ TapeS w wr (w.heap.size + 1) vi vq li lq ∧ wr.heap[w.heap.size]? = some (.cells #[.slice none 0 0, .slice none 0 0] 51 (0, 0))) (fun i_ _ => n - (intOf i_).toNat)
 case atStart => exact ⟨0, _, _, [], [], rfl, Nat.zero_le _, Nat.zero_le _, rfl, rfl, HT0.out, HR0.out⟩
 case round =>
  obtain ⟨k, vi, vq, li, lq, rfl, hk, hk4, hli, hlq, ht, hr⟩ := hrel
  have HT := Lib.hid ht
  have HR := Lib.hid hr
  have HLI := Lib.hid hli
  have HLQ := Lib.hid hlq
  have HK4 := Lib.hid hk4
  have x2 : IntKind.i64.wrap ((k : Int) + 1) = (k : Int) + 1 := IntWalk.i64_in _ (by omega)
  clear ht hr hli hlq
  by_cases h1 : k < n
  ·have b1 : decide ((k : Int) < (n : Int)) = true := decide_eq_true (by omega)
   have b3 : decide (k < n) = true := decide_eq_true h1
   by_cases h2 : k < 40
   ·have b2 : decide ((k : Int) < 40) = true := decide_eq_true (by omega)
    have b4 : decide (k < 40) = true := decide_eq_true h2
    have HH1 := Lib.hid h1
    have HH2 := Lib.hid h2
    obtain ⟨x, hx⟩ := at_some L k (by rw [HN.out]; exact h1)
    obtain ⟨B, off, rfl, hB, hcx⟩ := HP.out k x hx
    obtain ⟨y, hy⟩ : ∃ y, IntKind.u16.wrap x = y := ⟨_, rfl⟩
    have HY : Hid (OkU16 y) := Lib.hid (hy ▸ u16_ok x)
    obtain ⟨q8, hq8⟩ : ∃ q8, x / 8 = q8 := ⟨_, rfl⟩
    obtain ⟨r1, hr1, hr2⟩ := i64_mask q8 1 1 (by decide) (by decide)
    have hr1 : bits .and .i64 q8 1 = (r1 : Int) := hr1
    have hz8 : IntKind.u8.wrap (r1 : Int) = (r1 : Int) := by rw [IntKind.wrap_u8]; omega
    have HZ : Hid (0 ≤ (r1 : Int) ∧ (r1 : Int) < 256) := Lib.hid (by omega)
    have KC : Hid (∀ W, Below wr.heap.size wr W → W.cell? ⟨w.heap.size + 1, 0, none⟩ = some vi ∧ W.cell? ⟨w.heap.size + 1, 1, none⟩ = some vq ∧ W.cell? ⟨B, off + k, none⟩ = some (.int .i64 x)) := Lib.hid fun W hW => ⟨Lib.cell_of_heap (at_next hW HT.out.tb) 0, Lib.cell_of_heap (at_next hW HT.out.tb) 1, ((below_next HT.out.bel hW).cell (p := ⟨B, off + k, none⟩) hB).trans hcx⟩
    have KX : Hid (∀ W, Below w.heap.size w W → W.cell? ⟨B, off + k, none⟩ = some (.int .i64 x)) := Lib.hid fun W hW => (hW.cell (p := ⟨B, off + k, none⟩) hB).trans hcx
    have i1 : (0 : Int) ≤ (k : Int) := by omega
    have i2 : (k : Int) < (n : Int) := by omega
    clear hx hcx hk hk4 h1 h2 hr2 hB
    go_upto_region 5 with (fail)
    refine' wp_region_flowT [0, 1, 2, 3, 4, 5, 6, 7] [8, 10] [[], [(16, 0)], [], [], [(18, 2), (19, 3)], [(20, 4)], [(21, 5)], [(22, 6)], [(17, 1), (23, 7)], [], [(25, 9), (24, 8)]] [(16, 0), (17, 1), (18, 2), (19, 3), (20, 4), (21, 5), (22, 6), (23, 7), (25, 9)] (relL [eqV _, eqV _, eqV _, eqV _, eqV _, eqV _, eqV _, slTo (.cells #[.int .u16 y] 22) 1 wr, fun v V => True, eqV _, fun v V => True]) [(8, _), (10, _)] (by kernel_rfl) (by kernel_rfl) rfl ?_ ?_
    rotate_left 8
    · refine FlowT.mem (by decide) ?_ ?_
      · intro V3 hV
        simp only [Dep, Act.put, lA, lZ, lS]
        intro K hK
        go_simp
        refine hK _ _ ?_ (Below.refl _ _)
        simp only [relL, eqV]
        exact rfl
      refine FlowT.mem (by decide) ?_ ?_
      · intro V3 hV
        simp only [Dep, Act.put, lA, lZ, lS]
        rintro x16 ⟨V16, rfl, hb16⟩
        intro K hK
        obtain ⟨c0, c1, cx⟩ := KC.out _ hV
        go_simp
        refine hK _ _ ?_ (Below.refl _ _)
        simp only [relL, eqV]
        exact rfl
      refine FlowT.mem (by decide) ?_ ?_
      · intro V3 hV
        simp only [Dep, Act.put, lA, lZ, lS]
        intro K hK
        go_simp
        refine hK _ _ ?_ (Below.refl _ _)
        simp only [relL, eqV]
        exact rfl
      refine FlowT.mem (by decide) ?_ ?_
      · intro V3 hV
        simp only [Dep, Act.put, lA, lZ, lS]
        intro K hK
        go_simp
        refine hK _ _ ?_ (Below.refl _ _)
        simp only [relL, eqV]
        exact rfl
      refine FlowT.mem (by decide) ?_ ?_
      · intro V3 hV
        simp only [Dep, Act.put, lA, lZ, lS]
        rintro x18 ⟨V18, rfl, hb18⟩
        rintro x19 ⟨V19, rfl, hb19⟩
        intro K hK
        go_simp
        refine hK _ _ ?_ (Below.refl _ _)
        simp only [relL, eqV]
        exact rfl
      refine FlowT.mem (by decide) ?_ ?_
      · intro V3 hV
        simp only [Dep, Act.put, lA, lZ, lS]
        rintro x20 ⟨V20, rfl, hb20⟩
        intro K hK
        obtain ⟨c0, c1, cx⟩ := KC.out _ hV
        go_simp
        refine hK _ _ ?_ (Below.refl _ _)
        simp only [relL, eqV]
        exact rfl
      refine FlowT.mem (by decide) ?_ ?_
      · intro V3 hV
        simp only [Dep, Act.put, lA, lZ, lS]
        rintro x21 ⟨V21, rfl, hb21⟩
        intro K hK
        go_simp
        refine hK _ _ ?_ (Below.refl _ _)
        simp only [relL, eqV]
        exact rfl
      refine FlowT.mem (by decide) ?_ ?_
      · intro V3 hV
        simp only [Dep, Act.put, lA, lZ, lS]
        rintro x22 ⟨V22, rfl, hb22⟩
        intro K hK
        go_simp
        exact hK _ _ ⟨V3, rfl, rfl, hV⟩ (below1 _ _)
      refine FlowT.store (by decide) rfl ?_
      refine FlowT.val (by decide) _ (fun _ _ => Iff.rfl) ?_ ?_
      · simp only [DepP, Act.put, lA, lZ, lS]
        intro V K hK
        go_simp
        exact hK
      refine FlowT.store (by decide) rfl ?_
      exact FlowT.nil
    · intro V3 hV
      simp only [Dep, Act.put, lA, lZ, lS]
      rintro x16 ⟨V16, rfl, hb16⟩
      rintro x17 ⟨V17, rfl, hb17⟩
      rintro x18 ⟨V18, rfl, hb18⟩
      rintro x19 ⟨V19, rfl, hb19⟩
      rintro x20 ⟨V20, rfl, hb20⟩
      rintro x21 ⟨V21, rfl, hb21⟩
      rintro x22 ⟨V22, rfl, hb22⟩
      rintro x23 ⟨V23, ⟨W9, rfl, rfl, hb9⟩, hb23⟩
      rintro x25 ⟨V25, rfl, hb25⟩
      have HV := Lib.hid hV
      have HT2 := Lib.hid (HT.out.next hV)
      clear hV
      intro K1 hK1
      obtain ⟨i9, hi9, hz9, hs9, hb9'⟩ := winfo22
      refine (if_pos (by rfl)).mpr ?_
      refine wp_append_lies _ _ _ _ rfl w.heap.size 22 i9 (.int .u16 0) 1 2 Try.underlying40 hi9 hz9 hs9 hb9' rfl (by decide) _ _ _ rfl HT2.out.inp ⟨W9.heap.size, 0, none⟩ 1 1 [.int .u16 y] rfl rfl (news_at hb23 _ rfl) (by simp [Value.oneCell']) (by decide) (by have := HLI.out; have := HK4.out; unfold maxLen; omega) (by have := HLI.out; have := HK4.out; omega) HT2.out.bel.size _ rfl ?_
      intro g cap w3 hown hg _ _
      refine hK1 _ _ ?_
      simp only [Act.put, lA, lZ, lS]
      clear hK1 K1 hi9 hz9 hs9 hb9'
      obtain ⟨ht4, f25, k25⟩ := HT2.out.pushI HY.out hown hg
      have HT4 := Lib.hid ht4
      have HR4 : Hid (∀ v, (w3.setCell ⟨w.heap.size + 1, 0, none⟩ v).heap[w.heap.size]? = some (.cells #[.slice none 0 0, .slice none 0 0] 51 (0, 0))) := Lib.hid fun v => sc_oth (A := w.heap.size + 1) (by omega) (tape_keep HT2.out.inp (by decide) hg (at_next HV.out HR.out)) rfl
      clear ht4 hown hg
      intro K1 hK1
      go_simp
      refine hK1 undef _ ?_
      clear hK1 K1 f25 k25
      unfold TailS
      generalize eW5 : World.setCell _ _ _ = W5 at HT4 ⊢
      have HT5 := Lib.hid HT4.out
      have HR5 : Hid (W5.heap[w.heap.size]? = some (.cells #[.slice none 0 0, .slice none 0 0] 51 (0, 0))) := Lib.hid (eW5 ▸ HR4.out _)
      have KC6 : Hid (∀ W, Below W5.heap.size W5 W → W.cell? ⟨w.heap.size + 1, 0, none⟩ = some _ ∧ W.cell? ⟨w.heap.size + 1, 1, none⟩ = some vq ∧ W.cell? ⟨B, off + k, none⟩ = some (.int .i64 x)) := Lib.hid fun W hW => ⟨Lib.cell_of_heap (at_next hW HT5.out.tb) 0, Lib.cell_of_heap (at_next hW HT5.out.tb) 1, KX.out _ (below_next HT5.out.bel hW)⟩
      clear eW5 HT4 HR4 HT2
      go_upto_region 6 with (fail)
      refine' wp_region_flowT [0, 1, 2, 3, 4, 5, 6, 7, 8, 9] [10, 12] [[], [(26, 0)], [], [], [(28, 2), (29, 3)], [(30, 4)], [(31, 5)], [(32, 6)], [(33, 7)], [(34, 8)], [(27, 1), (35, 9)], [], [(37, 11), (36, 10)]] [(26, 0), (27, 1), (28, 2), (29, 3), (30, 4), (31, 5), (32, 6), (33, 7), (34, 8), (35, 9), (37, 11)] (relL [eqV _, eqV _, eqV _, eqV _, eqV _, eqV _, eqV _, eqV _, eqV _, slTo (.cells #[.int .u8 (r1 : Int)] 5) 1 W5, fun v V => True, eqV _, fun v V => True]) [(10, _), (12, _)] (by kernel_rfl) (by kernel_rfl) rfl ?_ ?_
      rotate_left 10
      · refine FlowT.mem (by decide) ?_ ?_
        · intro V3 hV
          simp only [Dep, Act.put, lA, lZ, lS]
          intro K hK
          go_simp
          refine hK _ _ ?_ (Below.refl _ _)
          simp only [relL, eqV]
          exact rfl
        refine FlowT.mem (by decide) ?_ ?_
        · intro V3 hV
          simp only [Dep, Act.put, lA, lZ, lS]
          rintro x26 ⟨V26, rfl, hb26⟩
          intro K hK
          obtain ⟨c0, c1, cx⟩ := KC6.out _ hV
          go_simp
          refine hK _ _ ?_ (Below.refl _ _)
          simp only [relL, eqV]
          exact rfl
        refine FlowT.mem (by decide) ?_ ?_
        · intro V3 hV
          simp only [Dep, Act.put, lA, lZ, lS]
          intro K hK
          go_simp
          refine hK _ _ ?_ (Below.refl _ _)
          simp only [relL, eqV]
          exact rfl
        refine FlowT.mem (by decide) ?_ ?_
        · intro V3 hV
          simp only [Dep, Act.put, lA, lZ, lS]
          intro K hK
          go_simp
          refine hK _ _ ?_ (Below.refl _ _)
          simp only [relL, eqV]
          exact rfl
        refine FlowT.mem (by decide) ?_ ?_
        · intro V3 hV
          simp only [Dep, Act.put, lA, lZ, lS]
          rintro x28 ⟨V28, rfl, hb28⟩
          rintro x29 ⟨V29, rfl, hb29⟩
          intro K hK
          go_simp
          refine hK _ _ ?_ (Below.refl _ _)
          simp only [relL, eqV]
          exact rfl
        refine FlowT.mem (by decide) ?_ ?_
        · intro V3 hV
          simp only [Dep, Act.put, lA, lZ, lS]
          rintro x30 ⟨V30, rfl, hb30⟩
          intro K hK
          obtain ⟨c0, c1, cx⟩ := KC6.out _ hV
          go_simp
          refine hK _ _ ?_ (Below.refl _ _)
          simp only [relL, eqV]
          exact rfl
        refine FlowT.mem (by decide) ?_ ?_
        · intro V3 hV
          simp only [Dep, Act.put, lA, lZ, lS]
          rintro x31 ⟨V31, rfl, hb31⟩
          intro K hK
          go_simp
          refine hK _ _ ?_ (Below.refl _ _)
          simp only [relL, eqV]
          exact rfl
        refine FlowT.mem (by decide) ?_ ?_
        · intro V3 hV
          simp only [Dep, Act.put, lA, lZ, lS]
          rintro x32 ⟨V32, rfl, hb32⟩
          intro K hK
          go_simp
          refine hK _ _ ?_ (Below.refl _ _)
          simp only [relL, eqV]
          exact rfl
        refine FlowT.mem (by decide) ?_ ?_
        · intro V3 hV
          simp only [Dep, Act.put, lA, lZ, lS]
          rintro x33 ⟨V33, rfl, hb33⟩
          intro K hK
          go_simp
          refine hK _ _ ?_ (Below.refl _ _)
          simp only [relL, eqV]
          exact rfl
        refine FlowT.mem (by decide) ?_ ?_
        · intro V3 hV
          simp only [Dep, Act.put, lA, lZ, lS]
          rintro x34 ⟨V34, rfl, hb34⟩
          intro K hK
          go_simp
          exact hK _ _ ⟨V3, rfl, rfl, hV⟩ (below1 _ _)
        refine FlowT.store (by decide) rfl ?_
        refine FlowT.val (by decide) _ (fun _ _ => Iff.rfl) ?_ ?_
        · simp only [DepP, Act.put, lA, lZ, lS]
          intro V K hK
          go_simp
          exact hK
        refine FlowT.store (by decide) rfl ?_
        exact FlowT.nil
      · intro V3 hV
        simp only [Dep, Act.put, lA, lZ, lS]
        rintro x26 ⟨V26, rfl, hb26⟩
        rintro x27 ⟨V27, rfl, hb27⟩
        rintro x28 ⟨V28, rfl, hb28⟩
        rintro x29 ⟨V29, rfl, hb29⟩
        rintro x30 ⟨V30, rfl, hb30⟩
        rintro x31 ⟨V31, rfl, hb31⟩
        rintro x32 ⟨V32, rfl, hb32⟩
        rintro x33 ⟨V33, rfl, hb33⟩
        rintro x34 ⟨V34, rfl, hb34⟩
        rintro x35 ⟨V35, ⟨W9, rfl, rfl, hb9⟩, hb35⟩
        rintro x37 ⟨V37, rfl, hb37⟩
        have HV := Lib.hid hV
        have HT2 := Lib.hid (HT5.out.next hV)
        clear hV
        intro K1 hK1
        obtain ⟨i9, hi9, hz9, hs9, hb9'⟩ := winfo5
        refine (if_pos (by rfl)).mpr ?_
        refine wp_append_lies _ _ _ _ rfl w.heap.size 5 i9 (.int .u8 0) 1 1 Try.underlying49 hi9 hz9 hs9 hb9' rfl (by decide) _ _ _ rfl HT2.out.irq ⟨W9.heap.size, 0, none⟩ 1 1 [.int .u8 (r1 : Int)] rfl rfl (news_at hb35 _ rfl) (by simp [Value.oneCell']) (by decide) (by have := HLQ.out; have := HK4.out; unfold maxLen; omega) (by have := HLQ.out; have := HK4.out; omega) HT2.out.bel.size _ rfl ?_
        intro g cap w3 hown hg _ _
        refine hK1 _ _ ?_
        simp only [Act.put, lA, lZ, lS]
        clear hK1 K1 hi9 hz9 hs9 hb9'
        obtain ⟨ht4, f25, k25⟩ := HT2.out.pushQ HZ.out hown hg
        have HT4 := Lib.hid ht4
        have HR4 : Hid (∀ v, (w3.setCell ⟨w.heap.size + 1, 1, none⟩ v).heap[w.heap.size]? = some (.cells #[.slice none 0 0, .slice none 0 0] 51 (0, 0))) := Lib.hid fun v => sc_oth (A := w.heap.size + 1) (by omega) (tape_keep HT2.out.irq (by decide) hg (at_next HV.out HR5.out)) rfl
        clear ht4 hown hg
        intro K1 hK1
        go_simp
        refine hK1 undef _ ?_
        clear hK1 K1 f25 k25
        unfold TailS
        generalize eW6 : World.setCell _ _ _ = W6 at HT4 ⊢
        have HT6 := Lib.hid HT4.out
        have HR6 : Hid (W6.heap[w.heap.size]? = some (.cells #[.slice none 0 0, .slice none 0 0] 51 (0, 0))) := Lib.hid (eW6 ▸ HR4.out _)
        clear eW6 HT4 HR4 HT2 HT5 HR5 KC6
        go_wp2_with fail
        go_roundw
        case rel => exact ⟨k + 1, _, _, li ++ [y], lq ++ [(r1 : Int)], by go_num, HH1.out, HH2.out, by rw [List.length_append, HLI.out]; rfl, by rw [List.length_append, HLQ.out]; rfl, HT6.out, HR6.out⟩
        case measure => have := HH1.out; simp only [intOf]; omega
   ·have b2 : decide ((k : Int) < 40) = false := decide_eq_false (by omega)
    have b4 : decide (k < 40) = false := decide_eq_false h2
    clear h1 h2 hk hk4
    obtain ⟨pi, ci, rfl, _, _⟩ := own_slice HT.out.inp
    obtain ⟨pq, cq, rfl, _, _⟩ := own_slice HT.out.irq
    have HFI := Lib.hid (own_rowLow HT.out.inp)
    go_wp2_with (first | refine wpList_load_row 51 _ rfl rfl (w.heap.size + 1) rfl #[.slice pi li.length ci, .slice pq lq.length cq] HT.out.tb Try.underlying51 info51 ?_ | (refine wpList_store_row 51 _ _ rfl rfl w.heap.size rfl #[.slice pi li.length ci, .slice pq lq.length cq] rfl HR.out info51 rfl (by simp [Value.oneCell']) ?_; refine Hid.out ?_))
    generalize e9 : World.setRow _ _ _ = W9
    have HX9 := Lib.hid (show W9.heap[w.heap.size]? = some (.cells #[.slice pi li.length ci, .slice pq lq.length cq] 51 (0, 0)) from e9 ▸ setRow_heap _ _ _ _ _ _ HR.out)
    have HB9 := Lib.hid (show Below w.heap.size w W9 from e9 ▸ setRow_below HT.out.bel (Nat.le_refl _))
    have HI9 : Hid (W9.ownsRow w.heap.size 22 1 (.slice pi li.length ci) li.length (li.map (Value.int .u16))) := Lib.hid (e9 ▸ own_row HT.out.inp fun e => by
     obtain ⟨_, c, f, hk⟩ := own_kind HT.out.inp _ e
     rw [HR.out] at hk; simp at hk)
    have HQ9 : Hid (W9.ownsRow w.heap.size 5 1 (.slice pq lq.length cq) lq.length (lq.map (Value.int .u8))) := Lib.hid (e9 ▸ own_row HT.out.irq fun e => by
     obtain ⟨_, c, f, hk⟩ := own_kind HT.out.irq _ e
     rw [HR.out] at hk; simp at hk)
    refine Lib.hid ?_
    clear e9
    go_wp2_with fail
    exact bodyPost_ret (v := .agg #[.slice pi li.length ci, .slice pq lq.length cq]) (row_result rfl _ _ w.heap.size _ 51 rfl HX9.out Try.underlying51 info51) rfl ⟨pi, ci, li, pq, cq, lq, rfl, ⟨⟨_, HI9.out⟩, ⟨_, HQ9.out⟩, by rw [HLI.out, HLQ.out]; exact ⟨HK4.out, HK4.out⟩, HT.out.oki, HT.out.okq⟩, HB9.out⟩
  ·have b1 : decide ((k : Int) < (n : Int)) = false := decide_eq_false (by omega)
   have b3 : decide (k < n) = false := decide_eq_false h1
   clear h1 hk hk4
   obtain ⟨pi, ci, rfl, _, _⟩ := own_slice HT.out.inp
   obtain ⟨pq, cq, rfl, _, _⟩ := own_slice HT.out.irq
   have HFI := Lib.hid (own_rowLow HT.out.inp)
   go_wp2_with (first | refine wpList_load_row 51 _ rfl rfl (w.heap.size + 1) rfl #[.slice pi li.length ci, .slice pq lq.length cq] HT.out.tb Try.underlying51 info51 ?_ | (refine wpList_store_row 51 _ _ rfl rfl w.heap.size rfl #[.slice pi li.length ci, .slice pq lq.length cq] rfl HR.out info51 rfl (by simp [Value.oneCell']) ?_; refine Hid.out ?_))
   generalize e9 : World.setRow _ _ _ = W9
   have HX9 := Lib.hid (show W9.heap[w.heap.size]? = some (.cells #[.slice pi li.length ci, .slice pq lq.length cq] 51 (0, 0)) from e9 ▸ setRow_heap _ _ _ _ _ _ HR.out)
   have HB9 := Lib.hid (show Below w.heap.size w W9 from e9 ▸ setRow_below HT.out.bel (Nat.le_refl _))
   have HI9 : Hid (W9.ownsRow w.heap.size 22 1 (.slice pi li.length ci) li.length (li.map (Value.int .u16))) := Lib.hid (e9 ▸ own_row HT.out.inp fun e => by
    obtain ⟨_, c, f, hk⟩ := own_kind HT.out.inp _ e
    rw [HR.out] at hk; simp at hk)
   have HQ9 : Hid (W9.ownsRow w.heap.size 5 1 (.slice pq lq.length cq) lq.length (lq.map (Value.int .u8))) := Lib.hid (e9 ▸ own_row HT.out.irq fun e => by
    obtain ⟨_, c, f, hk⟩ := own_kind HT.out.irq _ e
    rw [HR.out] at hk; simp at hk)
   refine Lib.hid ?_
   clear e9
   go_wp2_with fail
   exact bodyPost_ret (v := .agg #[.slice pi li.length ci, .slice pq lq.length cq]) (row_result rfl _ _ w.heap.size _ 51 rfl HX9.out Try.underlying51 info51) rfl ⟨pi, ci, li, pq, cq, lq, rfl, ⟨⟨_, HI9.out⟩, ⟨_, HQ9.out⟩, by rw [HLI.out, HLQ.out]; exact ⟨HK4.out, HK4.out⟩, HT.out.oki, HT.out.okq⟩, HB9.out⟩
end Go.Proofs.Ytieaicdihingkaa
