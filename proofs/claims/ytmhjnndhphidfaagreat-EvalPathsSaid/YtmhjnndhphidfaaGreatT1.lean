/- check.tablesOf, in the evaluator's words. -/
import Derived.Test.YtmhjnndhphidfaaGreatB1
import Derived.Test.YtmhjnndhphidfaaGreatA8
import Derived.StillTailTactics
import Derived.Lib.BufferWrite
import Derived.Maps.OwnIn
import Derived.Test.YtmhjnndhphidfaaGreatE1
namespace Go.Ab
set_option maxRecDepth 8000
open Go.Proofs Go.RowKit Go.Shelf
set_option linter.unusedVariables false
set_option linter.unusedSimpArgs false
attribute [local go_sem] Oper.semAt_some
theorem back70 (ad : Option Addr) (n c : Nat) (w : World) : Calls Tryz.prog 80 #[.slice ad n c] w fun e w' => e = .returned (.func (.func 138) #[] #[.pointer (some ⟨w.heap.size, 0, none⟩)]) ∧ w' = w.alloc (.cells #[.slice ad n c] 24) := by
  go_enter Tryz.func80, Tryz.ntmps80
  go_wp2
  go_ret
  exact ⟨rfl, rfl⟩
theorem back71 (ad : Option Addr) (n c : Nat) (w : World) : Calls Tryz.prog 81 #[.slice ad n c] w fun e w' => e = .returned (.func (.func 139) #[] #[.pointer (some ⟨w.heap.size, 0, none⟩)]) ∧ w' = w.alloc (.cells #[.slice ad n c] 25) := by
  go_enter Tryz.func81, Tryz.ntmps81
  go_wp2
  go_ret
  exact ⟨rfl, rfl⟩
theorem back72 (ad : Option Addr) (n c : Nat) (w : World) : Calls Tryz.prog 82 #[.slice ad n c] w fun e w' => e = .returned (.func (.func 140) #[] #[.pointer (some ⟨w.heap.size, 0, none⟩)]) ∧ w' = w.alloc (.cells #[.slice ad n c] 26) := by
  go_enter Tryz.func82, Tryz.ntmps82
  go_wp2
  go_ret
  exact ⟨rfl, rfl⟩
/-- The elements of a list, by their values. -/
structure Elems (w : World) (O : Bl) (L : List (List PV)) (s : Nat) (f : Nat → Nat → Value) : Prop where
  str : ∀ (j : Nat) (c : List PV), L[j]? = some c → c.length = s ∧ ∃ t l, c = .str t :: l
  rel : ∀ (j : Nat) (c : List PV) (q : Nat) (v : PV), L[j]? = some c → c[q]? = some v → PRel w O v (f j q)
  one : ∀ j q, (f j q).oneCell' = true
/-- Between two rounds. -/
structure Filled (O : Bl) (G : Gm) (Mb : Nat) (L : List (List PV)) (W0 : World) (pre : List Nat) (W : World) : Prop where
  keep : KpZ W0.heap.size (fun b => b = Mb) W0 W
  gr : Gr W0 W
  e3 : W.os = W0.os ∧ W.tape = W0.tape ∧ W.output = W0.output
  map : ∃ l, insL L pre [] = some l ∧ AllStr l ∧ MapAt W O G Mb (vals l)
theorem Filled.own {O : Bl} {G : Gm} {Mb m : Nat} {L : List (List PV)} {W0 : World} (hM : Mb < W0.heap.size) : OwnFrom W0.heap.size (fun (pre : List (Fin m)) W => Filled O G Mb L W0 (pre.map Fin.val) W) := by
  intro s W W' row h hg hr
  have hsame : ∀ b c e f, W.heap[b]? = some (Obj.cells c e f) → W'.heap[b]? = some (Obj.cells c e f) := fun b c e f hb => (hg.block b (Array.getElem?_eq_some_iff.1 hb).1 (fun he => by
    obtain ⟨_, o, ho, hc⟩ := hr b he.symm
    rw [hb] at ho
    cases ho
    cases hc)).trans hb
  have hold : ∀ b, b < W0.heap.size → W'.heap[b]? = W.heap[b]? := fun b hb => hg.block b (Nat.lt_of_lt_of_le hb h.gr.size) (fun he => by
    have := (hr b he.symm).1
    omega)
  have hG : Gr W W' := ⟨hg.size, hsame⟩
  obtain ⟨l, h1, h2, h3⟩ := h.map
  exact ⟨h.keep.trans fun b hb _ => hold b hb, h.gr.trans hG, ⟨hg.os.trans h.e3.1, hg.tape.trans h.e3.2.1, hg.output.trans h.e3.2.2⟩, l, h1, h2, mapAt_gr h3 hG (hold Mb hM)⟩
theorem Filled.step {O : Bl} {G : Gm} {Mb s : Nat} {L : List (List PV)} {W0 W : World} {f : Nat → Nat → Value} {pre : List Nat} {t : TypeId} (h : Filled O G Mb L W0 pre W) (he : Elems W0 O L s f) (hO : O Mb) (hk : keyK Tryz.prog t = some 2) {j : Nat} (hj : j < L.length) :
    ∃ es ck, (Instr.mapUpdate t (.map (some Mb)) (f j 0) (.agg ⟨(List.range s).map (f j)⟩)).run Tryz.prog W = .ok () { W with heap := W.heap.setIfInBounds Mb (.map es ck) } ∧ Filled O G Mb L W0 (pre ++ [j]) { W with heap := W.heap.setIfInBounds Mb (.map es ck) } := by
  obtain ⟨l, h1, h2, h3⟩ := h.map
  have hL : L[j]? = some L[j] := List.getElem?_eq_getElem hj
  obtain ⟨hlen, st, lt, hstr⟩ := he.str j _ hL
  obtain ⟨l', k1, k2⟩ := putK_str (s := st) (v := .agg L[j]) h2
  have hkey : PRel W O (.str st) (f j 0) := (he.rel j _ 0 _ hL (by rw [hstr]; rfl)).gr h.gr
  have hval : AVRel W O G (.p (.agg L[j])) (.agg ⟨(List.range s).map (f j)⟩) := by
    refine .p _ _ (.agg _ _ (by simpa using hlen) (fun i x hx => ?_) fun i c x hc hx => ?_)
    · rw [List.getElem?_map, Option.map_eq_some_iff] at hx
      obtain ⟨q, _, rfl⟩ := hx
      exact he.one j q
    · rw [List.getElem?_map, Option.map_eq_some_iff] at hx
      obtain ⟨q, hq, rfl⟩ := hx
      have := List.getElem?_eq_some_iff.1 hq
      obtain ⟨hlt, e⟩ := this
      simp at e
      subst e
      exact (he.rel j _ i c hL hc).gr h.gr
  have hput : putK (.str st) (.p (.agg L[j])) (vals l) = some (vals l') := putK_pure k1
  obtain ⟨es, ck, r1, r2⟩ := map_put (P := Tryz.prog) (t := t) (k := .str st) hk h3 hkey hval hput hO
  obtain ⟨es0, ck0, hb, _⟩ := h3
  refine ⟨es, ck, r1, h.keep.trans fun b hb' hn => ?_, h.gr.trans (gr_map hb), h.e3, l', ?_, k2, r2⟩
  · have hn : ¬ b = Mb := hn
    have hn' : ¬ Mb = b := fun h => hn h.symm
    simp [hn']
  · rw [insL_snoc, h1]
    show (ob (nth L j) fun e => ob (nth e 0) fun k => putK k (.agg e) l) = _
    rw [nth_eq, hL]
    show (ob (nth L[j] 0) fun k => putK k (.agg L[j]) l) = _
    rw [show nth L[j] 0 = some (.str st) by rw [nth_eq, hstr]; rfl]
    exact k1
/-- What does not change between the loops. -/
structure Tb (n : Nat) (sA sB sC : Value) (w W : World) : Prop where
  old : ∀ b : Nat, b < n → W.heap[b]? = w.heap[b]?
  e3 : W.os = w.os ∧ W.tape = w.tape ∧ W.output = w.output
  size : n + 7 ≤ W.heap.size
  gr : Gr w W
  p : W.heap[n]? = some (.cells #[sA, sB, sC] 28 (0, 0))
  k : W.heap[n + 5]? = some (.cells #[sA, sB, sC, .map (some (n + 1)), .map (some (n + 2)), .map (some (n + 3)), .map (some (n + 4))] 157 (0, 0))
  t : W.heap[n + 6]? = some (.cells #[.pointer (some ⟨n + 5, 0, none⟩)] 88 (0, 0))
  m4 : W.heap[n + 4]? = some (.map #[] 0)
theorem Tb.next {n Mb : Nat} {sA sB sC : Value} {w W W' : World} (h : Tb n sA sB sC w W) (hM : Mb = n + 1 ∨ Mb = n + 2 ∨ Mb = n + 3) (hk : KpZ W.heap.size (fun b => b = Mb) W W') (he : W'.os = W.os ∧ W'.tape = W.tape ∧ W'.output = W.output) (hg : Gr W W') : Tb n sA sB sC w W' := by
  have hs := h.size
  have key : ∀ b, b < W.heap.size → b ≠ Mb → W'.heap[b]? = W.heap[b]? := fun b hb hn => hk b hb hn
  exact { old := fun b hb => (key b (by omega) (by omega)).trans (h.old b hb), e3 := ⟨he.1.trans h.e3.1, he.2.1.trans h.e3.2.1, he.2.2.trans h.e3.2.2⟩, size := Nat.le_trans hs hg.size, gr := h.gr.trans hg,
          p := (key _ (by omega) (by omega)).trans h.p, k := (key _ (by omega) (by omega)).trans h.k, t := (key _ (by omega) (by omega)).trans h.t, m4 := (key _ (by omega) (by omega)).trans h.m4 }
theorem alloc_old (W : World) (o : Obj) (b : Nat) (hb : b < W.heap.size) : (W.alloc o).heap[b]? = W.heap[b]? := by
  simp [World.alloc, -World.alloc_eq, Array.getElem?_push]
  omega
theorem alloc_size (W : World) (o : Obj) : (W.alloc o).heap.size = W.heap.size + 1 := by simp [World.alloc, -World.alloc_eq]
theorem Tb.alloc {n : Nat} {sA sB sC : Value} {w W : World} (h : Tb n sA sB sC w W) (o : Obj) : Tb n sA sB sC w (W.alloc o) :=
  h.next (Mb := n + 1) (.inl rfl) (fun b hb _ => alloc_old W o b hb) ⟨rfl, rfl, rfl⟩ (gr_alloc W o)
theorem heap_alloc (W : World) (o : Obj) (b : Nat) : (W.alloc o).heap[b]? = if b = W.heap.size then some o else W.heap[b]? := by simp [World.alloc, -World.alloc_eq, Array.getElem?_push]
def MapF (W : World) (O : Bl) (G : Gm) (b : Nat) (L : List (List PV)) : Prop := ∃ l, insL L (backTo L.length L.length) [] = some l ∧ MapAt W O G b (vals l)
theorem MapF.gr {W W' : World} {O : Bl} {G : Gm} {b : Nat} {L : List (List PV)} (h : MapF W O G b L) (hg : Gr W W') (hb : W'.heap[b]? = W.heap[b]?) : MapF W' O G b L := by
  obtain ⟨l, h1, h2⟩ := h
  exact ⟨l, h1, mapAt_gr h2 hg hb⟩
theorem Elems.gr {w w' : World} {O : Bl} {L : List (List PV)} {s : Nat} {f : Nat → Nat → Value} (h : Elems w O L s f) (hg : Gr w w') : Elems w' O L s f := ⟨h.str, fun j c q v h1 h2 => (h.rel j c q v h1 h2).gr hg, h.one⟩
theorem Filled.zero {O : Bl} {G : Gm} {Mb : Nat} {L : List (List PV)} {W0 : World} (h : W0.heap[Mb]? = some (.map #[] 0)) : Filled O G Mb L W0 [] W0 :=
  ⟨.refl, .refl, ⟨rfl, rfl, rfl⟩, [], rfl, fun p hp => (by cases hp), #[], 0, h, .zero, fun i k v e h1 => (by simp [vals] at h1)⟩
theorem put_gr {W : World} {D : Nat} {o : Obj} {x : Option (List Deferred)} (h : W.heap[D]? = some (.deferred x)) : Gr W (W.putObj D o) := ⟨by simp, fun b c e f hb => (World.putObj_heap_other (fun he => by subst he; rw [h] at hb; cases hb)).trans hb⟩
theorem Tb.put {n D : Nat} {sA sB sC : Value} {w W : World} {o : Obj} {x : Option (List Deferred)} (h : Tb n sA sB sC w W) (hD : n + 7 ≤ D) (hl : W.heap[D]? = some (.deferred x)) : Tb n sA sB sC w (W.putObj D o) :=
  { old := fun b hb => (World.putObj_heap_other (by omega)).trans (h.old b hb), e3 := h.e3, size := Nat.le_trans h.size (put_gr hl).size, gr := h.gr.trans (put_gr hl),
    p := (World.putObj_heap_other (by omega)).trans h.p, k := (World.putObj_heap_other (by omega)).trans h.k, t := (World.putObj_heap_other (by omega)).trans h.t, m4 := (World.putObj_heap_other (by omega)).trans h.m4 }
theorem MapF.put {W : World} {O : Bl} {G : Gm} {b D : Nat} {L : List (List PV)} {o : Obj} {x : Option (List Deferred)} (h : MapF W O G b L) (hl : W.heap[D]? = some (.deferred x)) (hb : b < D) : MapF (W.putObj D o) O G b L := h.gr (put_gr hl) (World.putObj_heap_other (by omega))
/-- Where a slice's elements lie. -/
def LocAt (w : World) (ad : Option Addr) (m s : Nat) (f : Nat → Nat → Value) : Prop := m = 0 ∨ ∃ b off, ad = some ⟨b, off, none⟩ ∧ b < w.heap.size ∧ ∀ j q, j < m → q < s → w.cell? ⟨b, off + j * s + q, none⟩ = some (f j q)
set_option maxRecDepth 100000 in
set_option maxHeartbeats 8000000 in
theorem t35 (O : Bl) (G : Gm) (LA LB LC : List (List PV)) (fA fB fC : Nat → Nat → Value) (aA aB aC : Option Addr) (nA nB nC cA cB cC : Nat) (w : World) (R : Ending → World → Prop)
    (HE1 : Hid (Elems w O LA 3 fA)) (HE2 : Hid (Elems w O LB 8 fB)) (HE3 : Hid (Elems w O LC 10 fC)) (HL1 : Hid (LA.length = nA)) (HL2 : Hid (LB.length = nB)) (HL3 : Hid (LC.length = nC))
    (HLoc1 : Hid (LocAt w aA nA 3 fA)) (HLoc2 : Hid (LocAt w aB nB 8 fB)) (HLoc3 : Hid (LocAt w aC nC 10 fC)) (HLen : Hid (nA ≤ 1000000000000 ∧ nB ≤ 1000000000000 ∧ nC ≤ 1000000000000)) (HO : Hid (∀ b, w.heap.size ≤ b → O b))
    (HR : Hid (∀ W', Tb w.heap.size (.slice aA nA cA) (.slice aB nB cB) (.slice aC nC cC) w W' → MapF W' O G (w.heap.size + 1) LA → MapF W' O G (w.heap.size + 2) LB → MapF W' O G (w.heap.size + 3) LC → R (.returned (.pointer (some ⟨w.heap.size + 5, 0, none⟩))) W')) :
    Calls Tryz.prog 35 #[.agg #[.slice aA nA cA, .slice aB nB cB, .slice aC nC cC]] w R := by
  refine (callsIn_wide (n := 3)).1 ?_
  refine callsIn_of_wp_marks Tryz.func35 rfl trivial ?_
  simp only [Tryz.ntmps35, List.size_toArray, List.length_cons, List.length_nil, Nat.reduceAdd, Nat.reduceSub, Array.replicate_succ, Array.replicate_zero, List.push_toArray, List.append_toArray, List.nil_append, List.cons_append]
  have hmm := @run_makeMap Tryz.prog
  gi_wp2_with (refine ⟨trivial, ?_⟩; gi_at_call 80; refine (callsIn_wide.2 (back70 _ _ _ _)).mono ?_; rintro e w' ⟨rfl, rfl⟩)
  clear hmm
  generalize hW1 : World.alloc _ _ = W1
  have hTb : Tb w.heap.size (.slice aA nA cA) (.slice aB nB cB) (.slice aC nC cC) w W1 := by
    rw [← hW1]
    refine { old := fun b hb => ?_, e3 := ⟨rfl, rfl, rfl⟩, size := ?_, gr := ?_, p := ?_, k := ?_, t := ?_, m4 := ?_ }
    · simp only [heap_alloc, alloc_size]
      repeat rw [if_neg (by omega)]
    · simp only [alloc_size]; omega
    · repeat (first | exact Gr.refl | refine Gr.trans ?_ (gr_alloc _ _))
    all_goals (simp only [heap_alloc, alloc_size]; repeat (first | rw [if_pos (by omega)] | rw [if_neg (by omega)]); first | rfl | exact if_pos trivial | skip)
  have HTb1 := Lib.hid hTb
  have HM1 : Hid (W1.heap[w.heap.size + 1]? = some (.map #[] 0)) := Lib.hid (by rw [← hW1]; simp only [heap_alloc, alloc_size]; repeat (first | rw [if_pos (by omega)] | rw [if_neg (by omega)]); first | rfl | exact if_pos trivial | skip)
  have HM2 : Hid (W1.heap[w.heap.size + 2]? = some (.map #[] 0)) := Lib.hid (by rw [← hW1]; simp only [heap_alloc, alloc_size]; repeat (first | rw [if_pos (by omega)] | rw [if_neg (by omega)]); first | rfl | exact if_pos trivial | skip)
  have HM3 : Hid (W1.heap[w.heap.size + 3]? = some (.map #[] 0)) := Lib.hid (by rw [← hW1]; simp only [heap_alloc, alloc_size]; repeat (first | rw [if_pos (by omega)] | rw [if_neg (by omega)]); first | rfl | exact if_pos trivial | skip)
  have HBx1 : Hid (W1.heap[w.heap.size + 7]? = some (.cells #[.slice aA nA cA] 24 (0, 0))) := Lib.hid (by rw [← hW1, heap_alloc, if_pos (by simp only [alloc_size] <;> omega)])
  clear hTb hW1
  simp only [Nat.add_assoc, Nat.reduceAdd] at *
  generalize hn : w.heap.size = n at *
  generalize hBs : n + 7 = Bs1 at HBx1 ⊢
  generalize hT : n + 6 = T
  generalize hK : n + 5 = K
  generalize hM4 : n + 4 = M4
  generalize hM3 : n + 3 = M3 at HM3 ⊢
  generalize hM2 : n + 2 = M2 at HM2 ⊢
  generalize hM1 : n + 1 = M1 at HM1 ⊢
  have HNum : Hid (M1 = n + 1 ∧ M2 = n + 2 ∧ M3 = n + 3 ∧ M4 = n + 4 ∧ K = n + 5 ∧ T = n + 6) := Lib.hid (by omega)
  have HBn1 : Hid (n + 7 ≤ Bs1) := Lib.hid (by omega)
  clear hT hK hM1 hM2 hM3 hM4 hBs
  have Hn := Lib.hid hn
  clear hn
  have hElW := HE1.out.gr HTb1.out.gr
  have hNum := HNum.out
  have hSz := HTb1.out.size
  refine wpIn_rangeFunc_ownH (F := Fence.wide) (n := 3) rfl (by decide) (gf := 138) (lb := #[.pointer (some ⟨Bs1, 0, none⟩)]) rfl trivial (enters_of Tryz.func138 (by kernel_rfl) rfl) (b130_seq (f := fA) (n₀ := W1.heap.size) (Z := fun b => b = M1) (Nat.le_refl _) HLen.out.1 (Array.getElem?_eq_some_iff.1 HBx1.out).1 (by have := HBn1.out; omega) (Lib.cell_of_heap HBx1.out 0) ?loc) (fun h k => h.trans k) (fun W l o o' hl _ _ _ b hb _ => ?kb) (Below.refl _ _) (fun _ => rfl)
    (fun pre W => Filled O G M1 LA W1 (pre.map Fin.val) W) (fun _ _ _ => False) (Filled.own (by omega)) (fun _ _ _ _ _ h => h.elim) (Filled.zero HM1.out)
    (fun x a' W => ∃ Bx, W1.heap.size ≤ Bx ∧ W.heap[Bx]? = some (.cells #[fA x 0, fA x 1, fA x 2] 81 (0, 0)) ∧ a' = ⟨#[.agg #[.slice aA nA cA, .slice aB nB cB, .slice aC nC cC], .pointer (some ⟨n, 0, none⟩), .pointer none, .pointer (some ⟨T, 0, none⟩), undef, .pointer (some ⟨Bx, 0, none⟩), undef, undef, undef, undef, .agg #[.slice aA nA cA, .slice aB nB cB, .slice aC nC cC], .map (some M1), .map (some M2), .map (some M3), .map (some M4), .agg #[.slice aA nA cA, .slice aB nB cB, .slice aC nC cC, .map (some M1), .map (some M2), .map (some M3), .map (some M4)], .pointer (some ⟨K, 0, none⟩), .pointer (some ⟨n, 0, none⟩), .slice aA nA cA, .func (.func 138) #[] #[.pointer (some ⟨Bs1, 0, none⟩)], .int .i64 (x.val : Int), .agg #[fA x 0, fA x 1, fA x 2], undef, undef, undef, undef, undef, undef, undef, undef, undef, undef, undef, undef, undef, undef, undef, undef, undef, undef, undef, undef, undef, undef, undef, undef, undef, undef, undef, undef, undef, undef, undef, undef], []⟩) ?hAx ?assign ?body ?done (fun _ _ _ _ _ _ h _ => h.elim)
  case loc =>
    have hnn := Hn.out
    rcases HLoc1.out with h | ⟨b, off, h1, h2, h3⟩
    · exact .inl h
    · exact .inr ⟨b, off, h1, by omega, by show ¬ b = M1; omega, fun j q hj hq => (cell_of (a := ⟨b, _, none⟩) (HTb1.out.old b (by omega))).trans (h3 j q hj hq)⟩
  case kb =>
    have hne : b ≠ l := by omega
    exact World.putObj_heap_other hne
  case hAx =>
    rintro x a' _ W W' row ⟨Bx, h1, h2, h3⟩ hg hr
    exact ⟨Bx, h1, (hg.block Bx (Array.getElem?_eq_some_iff.1 h2).1 (fun he => by obtain ⟨_, o, ho, hc⟩ := hr Bx he.symm; rw [h2] at ho; cases ho; cases hc)).trans h2, h3⟩
  case assign =>
    intro l pre x W K' hI hK'
    have o0 := fun (w : World) (a : Addr) => run_store Tryz.prog w a (fA x 0) .plain (HE1.out.one x 0)
    have o1 := fun (w : World) (a : Addr) => run_store Tryz.prog w a (fA x 1) .plain (HE1.out.one x 1)
    have o2 := fun (w : World) (a : Addr) => run_store Tryz.prog w a (fA x 2) .plain (HE1.out.one x 2)
    clear hElW hNum hSz
    gi_wp2
    refine hK' _ _ ((KeepsOthers.alloc _ _).from _) (fun b hb _ => alloc_old _ _ _ (Nat.lt_of_lt_of_le hb hI.gr.size)) ?_ ⟨W.heap.size, hI.gr.size, alloc_at _ _, rfl⟩
    obtain ⟨l, h1, h2, h3⟩ := hI.map
    have hN := HNum.out
    have hS := HTb1.out.size
    exact ⟨hI.keep.trans fun b hb _ => alloc_old _ _ _ (Nat.lt_of_lt_of_le hb hI.gr.size), hI.gr.trans (gr_alloc _ _), hI.e3, l, h1, h2, mapAt_gr h3 (gr_alloc _ _) (alloc_old _ _ _ (Nat.lt_of_lt_of_le (by omega) hI.gr.size))⟩
  case body =>
    rintro l pre x a' W hl ⟨r, hr⟩ hI ⟨Bx, hBx, hX, rfl⟩ hlen
    obtain ⟨es, ck, hrun, hF⟩ := Filled.step (t := 153) (W := W.drew) ⟨hI.keep, hI.gr.trans (gr_drew W), hI.e3, by
      obtain ⟨l, h1, h2, h3⟩ := hI.map
      exact ⟨l, h1, h2, mapAt_gr h3 (gr_drew W) rfl⟩⟩ hElW (HO.out _ (by omega)) (by kernel_rfl) (j := x.val) (by rw [HL1.out]; exact x.isLt)
    have hrun : (Instr.mapUpdate 153 (.map (some M1)) (fA x 0) (.agg #[fA x 0, fA x 1, fA x 2])).run Tryz.prog W.drew = .ok () { W.drew with heap := W.drew.heap.setIfInBounds M1 (.map es ck) } := hrun
    have hTW := HTb1.out.next (Mb := M1) (by omega) hI.keep hI.e3 hI.gr
    have hk := hTW.k
    have ht := hTW.t
    rw [← HNum.out.2.2.2.2.1, ← HNum.out.1, ← HNum.out.2.1, ← HNum.out.2.2.1, ← HNum.out.2.2.2.1] at hk
    rw [← HNum.out.2.2.2.2.2, ← HNum.out.2.2.2.2.1] at ht
    have t0 : W.drew.cell? ⟨T, 0, none⟩ = some (.pointer (some ⟨K, 0, none⟩)) := Lib.cell_of_heap (w := W) ht 0
    have k3 : W.drew.cell? ⟨K, 3, none⟩ = some (.map (some M1)) := Lib.cell_of_heap (w := W) hk 3
    have x0 : W.drew.cell? ⟨Bx, 0, none⟩ = some (fA x 0) := Lib.cell_of_heap (w := W) hX 0
    have x1 : W.drew.cell? ⟨Bx, 1, none⟩ = some (fA x 1) := Lib.cell_of_heap (w := W) hX 1
    have x2 : W.drew.cell? ⟨Bx, 2, none⟩ = some (fA x 2) := Lib.cell_of_heap (w := W) hX 2
    clear hElW hNum hSz hk ht hTW
    refine wpIn_block ?_
    refine wpIn_region_still_tail 7 (by kernel_rfl) (by kernel_rfl) (by rintro ⟨_, _, h⟩; exact h) (by simp) ?_
    change wpStill _ _ W.drew _ _ _
    have HFF := Lib.hid hF
    clear hF
    generalize hWd : W.drew = Wd at hrun t0 k3 x0 x1 x2 ⊢
    simp only [List.take_succ_cons, List.take_zero, List.drop_succ_cons, List.drop_zero]
    repeat still_step
    try refine wpStill_nil ?_
    change wpList _ _ _ _ _ _
    go_wp2
    have hF := HFF.out
    rw [hWd] at hF
    have hN := HNum.out
    have hS := HTb1.out.size
    have hHd : Wd.heap = W.heap := by rw [← hWd]; rfl
    refine ⟨⟨?_, fun k o hk ho _ => ?_⟩, fun b hb hn => ?_, by show Filled _ _ _ _ _ (List.map Fin.val (pre ++ [x])) _; rw [List.map_append]; exact hF⟩
    · simp [hHd]
    · have hne : ¬ M1 = k := by omega
      simp [hHd, hne, ho]
    · have hne : ¬ M1 = b := fun e => hn e.symm
      simp [hHd, hne]
  case done =>
    rintro D1 xs W hD hS' hI hKD
    have hN := HNum.out
    have hTW := HTb1.out.next (Mb := M1) (by omega) hI.keep hI.e3 hI.gr
    have hSW := hTW.size
    have hFl : MapF W O G M1 LA := by
      obtain ⟨l, h1, h2, h3⟩ := hI.map
      rw [hS'] at h1
      exact ⟨l, by rw [HL1.out]; exact h1, h3⟩
    have hM2' : W.heap[M2]? = some (.map #[] 0) := (hI.keep M2 (by have := HTb1.out.size; omega) (by show ¬ M2 = M1; omega)).trans HM2.out
    have hM3' : W.heap[M3]? = some (.map #[] 0) := (hI.keep M3 (by have := HTb1.out.size; omega) (by show ¬ M3 = M1; omega)).trans HM3.out
    have hp := hTW.p
    have p2 : W.cell? ⟨n, 1, none⟩ = some (.slice aB nB cB) := Lib.cell_of_heap hp 1
    have HTW := Lib.hid hTW
    have HFl := Lib.hid hFl
    have HI := Lib.hid hI
    have HDD := Lib.hid (show W1.heap.size ≤ D1 ∧ W.heap[D1]? = some (.deferred (some [])) from ⟨hD, hKD⟩)
    have HM2n := Lib.hid hM2'
    have HM3n := Lib.hid hM3'
    clear hp hTW hFl hI hD hKD hN hSW hS' hElW hNum hSz  hM2' hM3'
    gi_wp2_with (refine ⟨trivial, ?_⟩; gi_at_call 81; refine (callsIn_wide.2 (back71 _ _ _ _)).mono ?_; rintro e w' ⟨rfl, rfl⟩)
    clear p2
    have hS0 := HTW.out.size
    have HBx2 : Hid ((W.alloc (.cells #[.slice aB nB cB] 25)).heap[W.heap.size]? = some (.cells #[.slice aB nB cB] 25 (0, 0))) := Lib.hid (alloc_at W _)
    have HTb2 := Lib.hid (HTW.out.alloc (.cells #[.slice aB nB cB] 25))
    have hNN := HNum.out
    have HBn2 : Hid (n + 7 ≤ W.heap.size) := Lib.hid hS0
    have HF1 : Hid (MapF (W.alloc (.cells #[.slice aB nB cB] 25)) O G M1 LA) := Lib.hid (HFl.out.gr (gr_alloc _ _) (alloc_old _ _ _ (by omega)))
    have HM2 : Hid ((W.alloc (.cells #[.slice aB nB cB] 25)).heap[M2]? = some (.map #[] 0)) := Lib.hid ((alloc_old _ _ _ (by omega)).trans HM2n.out)
    have HM3 : Hid ((W.alloc (.cells #[.slice aB nB cB] 25)).heap[M3]? = some (.map #[] 0)) := Lib.hid ((alloc_old _ _ _ (by omega)).trans HM3n.out)
    have hDlt : D1 < W.heap.size := (Array.getElem?_eq_some_iff.1 HDD.out.2).1
    have HD1 : Hid (n + 7 ≤ D1 ∧ D1 < (W.alloc (.cells #[.slice aB nB cB] 25)).heap.size ∧ (W.alloc (.cells #[.slice aB nB cB] 25)).heap[D1]? = some (.deferred (some []))) := Lib.hid ⟨by have := HDD.out.1; have := HTb1.out.size; omega, by rw [alloc_size]; omega, (alloc_old _ _ _ hDlt).trans HDD.out.2⟩
    clear hS0 hNN hDlt
    generalize hBs2 : W.heap.size = Bs2 at *
    generalize hW2 : W.alloc (.cells #[.slice aB nB cB] 25) = W2 at *
    have HLt1 : Hid (D1 < W2.heap.size) := Lib.hid HD1.out.2.1
    clear hW2
    clear hBs2
    have hElW := HE2.out.gr HTb2.out.gr
    have hNum := HNum.out
    have hSz := HTb2.out.size
    refine wpIn_rangeFunc_ownH (F := Fence.wide) (n := 3) rfl (by decide) (gf := 139) (lb := #[.pointer (some ⟨Bs2, 0, none⟩)]) rfl trivial (enters_of Tryz.func139 (by kernel_rfl) rfl) (b131_seq (f := fB) (n₀ := W2.heap.size) (Z := fun b => b = M2) (Nat.le_refl _) HLen.out.2.1 (Array.getElem?_eq_some_iff.1 HBx2.out).1 (by have := HBn2.out; omega) (Lib.cell_of_heap HBx2.out 0) ?loc) (fun h k => h.trans k) (fun W l o o' hl _ _ _ b hb _ => ?kb) (Below.refl _ _) (fun _ => rfl)
      (fun pre W => Filled O G M2 LB W2 (pre.map Fin.val) W) (fun _ _ _ => False) (Filled.own (by omega)) (fun _ _ _ _ _ h => h.elim) (Filled.zero HM2.out)
      (fun x a' W => ∃ Bx, W2.heap.size ≤ Bx ∧ W.heap[Bx]? = some (.cells #[fB x 0, fB x 1, fB x 2, fB x 3, fB x 4, fB x 5, fB x 6, fB x 7] 85 (0, 0)) ∧ a' = ⟨#[.agg #[.slice aA nA cA, .slice aB nB cB, .slice aC nC cC], .pointer (some ⟨n, 0, none⟩), .pointer none, .pointer (some ⟨T, 0, none⟩), undef, undef, undef, .pointer (some ⟨Bx, 0, none⟩), undef, undef, .agg #[.slice aA nA cA, .slice aB nB cB, .slice aC nC cC], .map (some M1), .map (some M2), .map (some M3), .map (some M4), .agg #[.slice aA nA cA, .slice aB nB cB, .slice aC nC cC, .map (some M1), .map (some M2), .map (some M3), .map (some M4)], .pointer (some ⟨K, 0, none⟩), .pointer (some ⟨n, 0, none⟩), .slice aA nA cA, .func (.func 138) #[] #[.pointer (some ⟨Bs1, 0, none⟩)], undef, undef, undef, undef, undef, undef, undef, undef, undef, .pointer (some ⟨n, 1, none⟩), .slice aB nB cB, .func (.func 139) #[] #[.pointer (some ⟨Bs2, 0, none⟩)], .int .i64 (x.val : Int), .agg #[fB x 0, fB x 1, fB x 2, fB x 3, fB x 4, fB x 5, fB x 6, fB x 7], undef, undef, undef, undef, undef, undef, undef, undef, undef, undef, undef, undef, undef, undef, undef, undef, undef, undef, undef, undef], []⟩) ?hAx ?assign ?body ?done (fun _ _ _ _ _ _ h _ => h.elim)
    case loc =>
      have hnn := Hn.out
      rcases HLoc2.out with h | ⟨b, off, h1, h2, h3⟩
      · exact .inl h
      · exact .inr ⟨b, off, h1, by omega, by show ¬ b = M2; omega, fun j q hj hq => (cell_of (a := ⟨b, _, none⟩) (HTb2.out.old b (by omega))).trans (h3 j q hj hq)⟩
    case kb =>
      have hne : b ≠ l := by omega
      exact World.putObj_heap_other hne
    case hAx =>
      rintro x a' _ W W' row ⟨Bx, h1, h2, h3⟩ hg hr
      exact ⟨Bx, h1, (hg.block Bx (Array.getElem?_eq_some_iff.1 h2).1 (fun he => by obtain ⟨_, o, ho, hc⟩ := hr Bx he.symm; rw [h2] at ho; cases ho; cases hc)).trans h2, h3⟩
    case assign =>
      intro l pre x W K' hI hK'
      have o0 := fun (w : World) (a : Addr) => run_store Tryz.prog w a (fB x 0) .plain (HE2.out.one x 0)
      have o1 := fun (w : World) (a : Addr) => run_store Tryz.prog w a (fB x 1) .plain (HE2.out.one x 1)
      have o2 := fun (w : World) (a : Addr) => run_store Tryz.prog w a (fB x 2) .plain (HE2.out.one x 2)
      have o3 := fun (w : World) (a : Addr) => run_store Tryz.prog w a (fB x 3) .plain (HE2.out.one x 3)
      have o4 := fun (w : World) (a : Addr) => run_store Tryz.prog w a (fB x 4) .plain (HE2.out.one x 4)
      have o5 := fun (w : World) (a : Addr) => run_store Tryz.prog w a (fB x 5) .plain (HE2.out.one x 5)
      have o6 := fun (w : World) (a : Addr) => run_store Tryz.prog w a (fB x 6) .plain (HE2.out.one x 6)
      have o7 := fun (w : World) (a : Addr) => run_store Tryz.prog w a (fB x 7) .plain (HE2.out.one x 7)
      clear hElW hNum hSz
      gi_wp2
      refine hK' _ _ ((KeepsOthers.alloc _ _).from _) (fun b hb _ => alloc_old _ _ _ (Nat.lt_of_lt_of_le hb hI.gr.size)) ?_ ⟨W.heap.size, hI.gr.size, alloc_at _ _, rfl⟩
      obtain ⟨l, h1, h2, h3⟩ := hI.map
      have hN := HNum.out
      have hS := HTb2.out.size
      exact ⟨hI.keep.trans fun b hb _ => alloc_old _ _ _ (Nat.lt_of_lt_of_le hb hI.gr.size), hI.gr.trans (gr_alloc _ _), hI.e3, l, h1, h2, mapAt_gr h3 (gr_alloc _ _) (alloc_old _ _ _ (Nat.lt_of_lt_of_le (by omega) hI.gr.size))⟩
    case body =>
      rintro l pre x a' W hl ⟨r, hr⟩ hI ⟨Bx, hBx, hX, rfl⟩ hlen
      obtain ⟨es, ck, hrun, hF⟩ := Filled.step (t := 108) (W := W.drew) ⟨hI.keep, hI.gr.trans (gr_drew W), hI.e3, by
        obtain ⟨l, h1, h2, h3⟩ := hI.map
        exact ⟨l, h1, h2, mapAt_gr h3 (gr_drew W) rfl⟩⟩ hElW (HO.out _ (by omega)) (by kernel_rfl) (j := x.val) (by rw [HL2.out]; exact x.isLt)
      have hrun : (Instr.mapUpdate 108 (.map (some M2)) (fB x 0) (.agg #[fB x 0, fB x 1, fB x 2, fB x 3, fB x 4, fB x 5, fB x 6, fB x 7])).run Tryz.prog W.drew = .ok () { W.drew with heap := W.drew.heap.setIfInBounds M2 (.map es ck) } := hrun
      have hTW := HTb2.out.next (Mb := M2) (by omega) hI.keep hI.e3 hI.gr
      have hk := hTW.k
      have ht := hTW.t
      rw [← HNum.out.2.2.2.2.1, ← HNum.out.1, ← HNum.out.2.1, ← HNum.out.2.2.1, ← HNum.out.2.2.2.1] at hk
      rw [← HNum.out.2.2.2.2.2, ← HNum.out.2.2.2.2.1] at ht
      have t0 : W.drew.cell? ⟨T, 0, none⟩ = some (.pointer (some ⟨K, 0, none⟩)) := Lib.cell_of_heap (w := W) ht 0
      have k3 : W.drew.cell? ⟨K, 4, none⟩ = some (.map (some M2)) := Lib.cell_of_heap (w := W) hk 4
      have x0 : W.drew.cell? ⟨Bx, 0, none⟩ = some (fB x 0) := Lib.cell_of_heap (w := W) hX 0
      have x1 : W.drew.cell? ⟨Bx, 1, none⟩ = some (fB x 1) := Lib.cell_of_heap (w := W) hX 1
      have x2 : W.drew.cell? ⟨Bx, 2, none⟩ = some (fB x 2) := Lib.cell_of_heap (w := W) hX 2
      have x3 : W.drew.cell? ⟨Bx, 3, none⟩ = some (fB x 3) := Lib.cell_of_heap (w := W) hX 3
      have x4 : W.drew.cell? ⟨Bx, 4, none⟩ = some (fB x 4) := Lib.cell_of_heap (w := W) hX 4
      have x5 : W.drew.cell? ⟨Bx, 5, none⟩ = some (fB x 5) := Lib.cell_of_heap (w := W) hX 5
      have x6 : W.drew.cell? ⟨Bx, 6, none⟩ = some (fB x 6) := Lib.cell_of_heap (w := W) hX 6
      have x7 : W.drew.cell? ⟨Bx, 7, none⟩ = some (fB x 7) := Lib.cell_of_heap (w := W) hX 7
      clear hElW hNum hSz hk ht hTW
      refine wpIn_block ?_
      refine wpIn_region_still_tail 7 (by kernel_rfl) (by kernel_rfl) (by rintro ⟨_, _, h⟩; exact h) (by simp) ?_
      change wpStill _ _ W.drew _ _ _
      have HFF := Lib.hid hF
      clear hF
      generalize hWd : W.drew = Wd at hrun t0 k3 x0 x1 x2 x3 x4 x5 x6 x7 ⊢
      simp only [List.take_succ_cons, List.take_zero, List.drop_succ_cons, List.drop_zero]
      repeat still_step
      try refine wpStill_nil ?_
      change wpList _ _ _ _ _ _
      go_wp2
      have hF := HFF.out
      rw [hWd] at hF
      have hN := HNum.out
      have hS := HTb2.out.size
      have hHd : Wd.heap = W.heap := by rw [← hWd]; rfl
      refine ⟨⟨?_, fun k o hk ho _ => ?_⟩, fun b hb hn => ?_, by show Filled _ _ _ _ _ (List.map Fin.val (pre ++ [x])) _; rw [List.map_append]; exact hF⟩
      · simp [hHd]
      · have hne : ¬ M2 = k := by omega
        simp [hHd, hne, ho]
      · have hne : ¬ M2 = b := fun e => hn e.symm
        simp [hHd, hne]
    case done =>
      rintro D2 xs W hD hS' hI hKD
      have hN := HNum.out
      have hTW := HTb2.out.next (Mb := M2) (by omega) hI.keep hI.e3 hI.gr
      have hSW := hTW.size
      have hFl : MapF W O G M2 LB := by
        obtain ⟨l, h1, h2, h3⟩ := hI.map
        rw [hS'] at h1
        exact ⟨l, by rw [HL2.out]; exact h1, h3⟩
      have hF1 : MapF W O G M1 LA := HF1.out.gr hI.gr (hI.keep M1 (by have := HTb2.out.size; omega) (by show ¬ M1 = M2; omega))
      have hM3' : W.heap[M3]? = some (.map #[] 0) := (hI.keep M3 (by have := HTb2.out.size; omega) (by show ¬ M3 = M2; omega)).trans HM3.out
      have hD1 : n + 7 ≤ D1 ∧ D1 < W.heap.size ∧ W.heap[D1]? = some (.deferred (some [])) := ⟨HD1.out.1, Nat.lt_of_lt_of_le HD1.out.2.1 hI.gr.size, (hI.keep D1 HD1.out.2.1 (by have := HD1.out.1; show ¬ D1 = M2; omega)).trans HD1.out.2.2⟩
      have hp := hTW.p
      have p3 : W.cell? ⟨n, 2, none⟩ = some (.slice aC nC cC) := Lib.cell_of_heap hp 2
      have HTW := Lib.hid hTW
      have HFl := Lib.hid hFl
      have HI := Lib.hid hI
      have HDD := Lib.hid (show W2.heap.size ≤ D2 ∧ W.heap[D2]? = some (.deferred (some [])) from ⟨hD, hKD⟩)
      have HF1n := Lib.hid hF1
      have HD1n := Lib.hid hD1
      have HM3n := Lib.hid hM3'
      clear hp hTW hFl hI hD hKD hN hSW hS' hElW hNum hSz hF1 hD1 hM3'
      gi_wp2_with (refine ⟨trivial, ?_⟩; gi_at_call 82; refine (callsIn_wide.2 (back72 _ _ _ _)).mono ?_; rintro e w' ⟨rfl, rfl⟩)
      clear p3
      have hS0 := HTW.out.size
      have HBx3 : Hid ((W.alloc (.cells #[.slice aC nC cC] 26)).heap[W.heap.size]? = some (.cells #[.slice aC nC cC] 26 (0, 0))) := Lib.hid (alloc_at W _)
      have HTb3 := Lib.hid (HTW.out.alloc (.cells #[.slice aC nC cC] 26))
      have hNN := HNum.out
      have HBn3 : Hid (n + 7 ≤ W.heap.size) := Lib.hid hS0
      have HF2 : Hid (MapF (W.alloc (.cells #[.slice aC nC cC] 26)) O G M2 LB) := Lib.hid (HFl.out.gr (gr_alloc _ _) (alloc_old _ _ _ (by omega)))
      have HF1 : Hid (MapF (W.alloc (.cells #[.slice aC nC cC] 26)) O G M1 LA) := Lib.hid (HF1n.out.gr (gr_alloc _ _) (alloc_old _ _ _ (by omega)))
      have HM3 : Hid ((W.alloc (.cells #[.slice aC nC cC] 26)).heap[M3]? = some (.map #[] 0)) := Lib.hid ((alloc_old _ _ _ (by omega)).trans HM3n.out)
      have hDlt : D2 < W.heap.size := (Array.getElem?_eq_some_iff.1 HDD.out.2).1
      have HD2 : Hid (n + 7 ≤ D2 ∧ D2 < (W.alloc (.cells #[.slice aC nC cC] 26)).heap.size ∧ (W.alloc (.cells #[.slice aC nC cC] 26)).heap[D2]? = some (.deferred (some []))) := Lib.hid ⟨by have := HDD.out.1; have := HTb2.out.size; omega, by rw [alloc_size]; omega, (alloc_old _ _ _ hDlt).trans HDD.out.2⟩
      have HD1 : Hid (n + 7 ≤ D1 ∧ D1 < (W.alloc (.cells #[.slice aC nC cC] 26)).heap.size ∧ (W.alloc (.cells #[.slice aC nC cC] 26)).heap[D1]? = some (.deferred (some []))) := Lib.hid ⟨HD1n.out.1, by rw [alloc_size]; have := HD1n.out.2.1; omega, (alloc_old _ _ _ HD1n.out.2.1).trans HD1n.out.2.2⟩
      clear hS0 hNN hDlt
      have HLt12 : Hid (D1 < D2) := Lib.hid (by have h1 := HDD.out.1; have h2 := HLt1.out; omega)
      generalize hBs3 : W.heap.size = Bs3 at *
      generalize hW3 : W.alloc (.cells #[.slice aC nC cC] 26) = W3 at *
      clear hW3
      clear hBs3
      have hElW := HE3.out.gr HTb3.out.gr
      have hNum := HNum.out
      have hSz := HTb3.out.size
      refine wpIn_rangeFunc_ownH (F := Fence.wide) (n := 3) rfl (by decide) (gf := 140) (lb := #[.pointer (some ⟨Bs3, 0, none⟩)]) rfl trivial (enters_of Tryz.func140 (by kernel_rfl) rfl) (b132_seq (f := fC) (n₀ := W3.heap.size) (Z := fun b => b = M3) (Nat.le_refl _) HLen.out.2.2 (Array.getElem?_eq_some_iff.1 HBx3.out).1 (by have := HBn3.out; omega) (Lib.cell_of_heap HBx3.out 0) ?loc) (fun h k => h.trans k) (fun W l o o' hl _ _ _ b hb _ => ?kb) (Below.refl _ _) (fun _ => rfl)
        (fun pre W => Filled O G M3 LC W3 (pre.map Fin.val) W) (fun _ _ _ => False) (Filled.own (by omega)) (fun _ _ _ _ _ h => h.elim) (Filled.zero HM3.out)
        (fun x a' W => ∃ Bx, W3.heap.size ≤ Bx ∧ W.heap[Bx]? = some (.cells #[fC x 0, fC x 1, fC x 2, fC x 3, fC x 4, fC x 5, fC x 6, fC x 7, fC x 8, fC x 9] 70 (0, 0)) ∧ a' = ⟨#[.agg #[.slice aA nA cA, .slice aB nB cB, .slice aC nC cC], .pointer (some ⟨n, 0, none⟩), .pointer none, .pointer (some ⟨T, 0, none⟩), undef, undef, undef, undef, undef, .pointer (some ⟨Bx, 0, none⟩), .agg #[.slice aA nA cA, .slice aB nB cB, .slice aC nC cC], .map (some M1), .map (some M2), .map (some M3), .map (some M4), .agg #[.slice aA nA cA, .slice aB nB cB, .slice aC nC cC, .map (some M1), .map (some M2), .map (some M3), .map (some M4)], .pointer (some ⟨K, 0, none⟩), .pointer (some ⟨n, 0, none⟩), .slice aA nA cA, .func (.func 138) #[] #[.pointer (some ⟨Bs1, 0, none⟩)], undef, undef, undef, undef, undef, undef, undef, undef, undef, .pointer (some ⟨n, 1, none⟩), .slice aB nB cB, .func (.func 139) #[] #[.pointer (some ⟨Bs2, 0, none⟩)], undef, undef, undef, undef, undef, undef, undef, undef, undef, .pointer (some ⟨n, 2, none⟩), .slice aC nC cC, .func (.func 140) #[] #[.pointer (some ⟨Bs3, 0, none⟩)], .int .i64 (x.val : Int), .agg #[fC x 0, fC x 1, fC x 2, fC x 3, fC x 4, fC x 5, fC x 6, fC x 7, fC x 8, fC x 9], undef, undef, undef, undef, undef, undef, undef, undef], []⟩) ?hAx ?assign ?body ?done (fun _ _ _ _ _ _ h _ => h.elim)
      case loc =>
        have hnn := Hn.out
        rcases HLoc3.out with h | ⟨b, off, h1, h2, h3⟩
        · exact .inl h
        · exact .inr ⟨b, off, h1, by omega, by show ¬ b = M3; omega, fun j q hj hq => (cell_of (a := ⟨b, _, none⟩) (HTb3.out.old b (by omega))).trans (h3 j q hj hq)⟩
      case kb =>
        have hne : b ≠ l := by omega
        exact World.putObj_heap_other hne
      case hAx =>
        rintro x a' _ W W' row ⟨Bx, h1, h2, h3⟩ hg hr
        exact ⟨Bx, h1, (hg.block Bx (Array.getElem?_eq_some_iff.1 h2).1 (fun he => by obtain ⟨_, o, ho, hc⟩ := hr Bx he.symm; rw [h2] at ho; cases ho; cases hc)).trans h2, h3⟩
      case assign =>
        intro l pre x W K' hI hK'
        have o0 := fun (w : World) (a : Addr) => run_store Tryz.prog w a (fC x 0) .plain (HE3.out.one x 0)
        have o1 := fun (w : World) (a : Addr) => run_store Tryz.prog w a (fC x 1) .plain (HE3.out.one x 1)
        have o2 := fun (w : World) (a : Addr) => run_store Tryz.prog w a (fC x 2) .plain (HE3.out.one x 2)
        have o3 := fun (w : World) (a : Addr) => run_store Tryz.prog w a (fC x 3) .plain (HE3.out.one x 3)
        have o4 := fun (w : World) (a : Addr) => run_store Tryz.prog w a (fC x 4) .plain (HE3.out.one x 4)
        have o5 := fun (w : World) (a : Addr) => run_store Tryz.prog w a (fC x 5) .plain (HE3.out.one x 5)
        have o6 := fun (w : World) (a : Addr) => run_store Tryz.prog w a (fC x 6) .plain (HE3.out.one x 6)
        have o7 := fun (w : World) (a : Addr) => run_store Tryz.prog w a (fC x 7) .plain (HE3.out.one x 7)
        have o8 := fun (w : World) (a : Addr) => run_store Tryz.prog w a (fC x 8) .plain (HE3.out.one x 8)
        have o9 := fun (w : World) (a : Addr) => run_store Tryz.prog w a (fC x 9) .plain (HE3.out.one x 9)
        clear hElW hNum hSz
        gi_wp2
        refine hK' _ _ ((KeepsOthers.alloc _ _).from _) (fun b hb _ => alloc_old _ _ _ (Nat.lt_of_lt_of_le hb hI.gr.size)) ?_ ⟨W.heap.size, hI.gr.size, alloc_at _ _, rfl⟩
        obtain ⟨l, h1, h2, h3⟩ := hI.map
        have hN := HNum.out
        have hS := HTb3.out.size
        exact ⟨hI.keep.trans fun b hb _ => alloc_old _ _ _ (Nat.lt_of_lt_of_le hb hI.gr.size), hI.gr.trans (gr_alloc _ _), hI.e3, l, h1, h2, mapAt_gr h3 (gr_alloc _ _) (alloc_old _ _ _ (Nat.lt_of_lt_of_le (by omega) hI.gr.size))⟩
      case body =>
        rintro l pre x a' W hl ⟨r, hr⟩ hI ⟨Bx, hBx, hX, rfl⟩ hlen
        obtain ⟨es, ck, hrun, hF⟩ := Filled.step (t := 154) (W := W.drew) ⟨hI.keep, hI.gr.trans (gr_drew W), hI.e3, by
          obtain ⟨l, h1, h2, h3⟩ := hI.map
          exact ⟨l, h1, h2, mapAt_gr h3 (gr_drew W) rfl⟩⟩ hElW (HO.out _ (by omega)) (by kernel_rfl) (j := x.val) (by rw [HL3.out]; exact x.isLt)
        have hrun : (Instr.mapUpdate 154 (.map (some M3)) (fC x 0) (.agg #[fC x 0, fC x 1, fC x 2, fC x 3, fC x 4, fC x 5, fC x 6, fC x 7, fC x 8, fC x 9])).run Tryz.prog W.drew = .ok () { W.drew with heap := W.drew.heap.setIfInBounds M3 (.map es ck) } := hrun
        have hTW := HTb3.out.next (Mb := M3) (by omega) hI.keep hI.e3 hI.gr
        have hk := hTW.k
        have ht := hTW.t
        rw [← HNum.out.2.2.2.2.1, ← HNum.out.1, ← HNum.out.2.1, ← HNum.out.2.2.1, ← HNum.out.2.2.2.1] at hk
        rw [← HNum.out.2.2.2.2.2, ← HNum.out.2.2.2.2.1] at ht
        have t0 : W.drew.cell? ⟨T, 0, none⟩ = some (.pointer (some ⟨K, 0, none⟩)) := Lib.cell_of_heap (w := W) ht 0
        have k3 : W.drew.cell? ⟨K, 5, none⟩ = some (.map (some M3)) := Lib.cell_of_heap (w := W) hk 5
        have x0 : W.drew.cell? ⟨Bx, 0, none⟩ = some (fC x 0) := Lib.cell_of_heap (w := W) hX 0
        have x1 : W.drew.cell? ⟨Bx, 1, none⟩ = some (fC x 1) := Lib.cell_of_heap (w := W) hX 1
        have x2 : W.drew.cell? ⟨Bx, 2, none⟩ = some (fC x 2) := Lib.cell_of_heap (w := W) hX 2
        have x3 : W.drew.cell? ⟨Bx, 3, none⟩ = some (fC x 3) := Lib.cell_of_heap (w := W) hX 3
        have x4 : W.drew.cell? ⟨Bx, 4, none⟩ = some (fC x 4) := Lib.cell_of_heap (w := W) hX 4
        have x5 : W.drew.cell? ⟨Bx, 5, none⟩ = some (fC x 5) := Lib.cell_of_heap (w := W) hX 5
        have x6 : W.drew.cell? ⟨Bx, 6, none⟩ = some (fC x 6) := Lib.cell_of_heap (w := W) hX 6
        have x7 : W.drew.cell? ⟨Bx, 7, none⟩ = some (fC x 7) := Lib.cell_of_heap (w := W) hX 7
        have x8 : W.drew.cell? ⟨Bx, 8, none⟩ = some (fC x 8) := Lib.cell_of_heap (w := W) hX 8
        have x9 : W.drew.cell? ⟨Bx, 9, none⟩ = some (fC x 9) := Lib.cell_of_heap (w := W) hX 9
        clear hElW hNum hSz hk ht hTW
        refine wpIn_block ?_
        refine wpIn_region_still_tail 7 (by kernel_rfl) (by kernel_rfl) (by rintro ⟨_, _, h⟩; exact h) (by simp) ?_
        change wpStill _ _ W.drew _ _ _
        have HFF := Lib.hid hF
        clear hF
        generalize hWd : W.drew = Wd at hrun t0 k3 x0 x1 x2 x3 x4 x5 x6 x7 x8 x9 ⊢
        simp only [List.take_succ_cons, List.take_zero, List.drop_succ_cons, List.drop_zero]
        repeat still_step
        try refine wpStill_nil ?_
        change wpList _ _ _ _ _ _
        go_wp2
        have hF := HFF.out
        rw [hWd] at hF
        have hN := HNum.out
        have hS := HTb3.out.size
        have hHd : Wd.heap = W.heap := by rw [← hWd]; rfl
        refine ⟨⟨?_, fun k o hk ho _ => ?_⟩, fun b hb hn => ?_, by show Filled _ _ _ _ _ (List.map Fin.val (pre ++ [x])) _; rw [List.map_append]; exact hF⟩
        · simp [hHd]
        · have hne : ¬ M3 = k := by omega
          simp [hHd, hne, ho]
        · have hne : ¬ M3 = b := fun e => hn e.symm
          simp [hHd, hne]
      case done =>
        rintro D3 xs W hD hS' hI hKD
        have hN := HNum.out
        have hTW := HTb3.out.next (Mb := M3) (by omega) hI.keep hI.e3 hI.gr
        have hSW := hTW.size
        have hFl : MapF W O G M3 LC := by
          obtain ⟨l, h1, h2, h3⟩ := hI.map
          rw [hS'] at h1
          exact ⟨l, by rw [HL3.out]; exact h1, h3⟩
        have hF1 : MapF W O G M1 LA := HF1.out.gr hI.gr (hI.keep M1 (by have := HTb3.out.size; omega) (by show ¬ M1 = M3; omega))
        have hF2 : MapF W O G M2 LB := HF2.out.gr hI.gr (hI.keep M2 (by have := HTb3.out.size; omega) (by show ¬ M2 = M3; omega))
        have hD1 : n + 7 ≤ D1 ∧ D1 < W.heap.size ∧ W.heap[D1]? = some (.deferred (some [])) := ⟨HD1.out.1, Nat.lt_of_lt_of_le HD1.out.2.1 hI.gr.size, (hI.keep D1 HD1.out.2.1 (by have := HD1.out.1; show ¬ D1 = M3; omega)).trans HD1.out.2.2⟩
        have hD2 : n + 7 ≤ D2 ∧ D2 < W.heap.size ∧ W.heap[D2]? = some (.deferred (some [])) := ⟨HD2.out.1, Nat.lt_of_lt_of_le HD2.out.2.1 hI.gr.size, (hI.keep D2 HD2.out.2.1 (by have := HD2.out.1; show ¬ D2 = M3; omega)).trans HD2.out.2.2⟩
        have ht := hTW.t
        rw [← HNum.out.2.2.2.2.2, ← HNum.out.2.2.2.2.1] at ht
        have t0 : W.cell? ⟨T, 0, none⟩ = some (.pointer (some ⟨K, 0, none⟩)) := Lib.cell_of_heap ht 0
        have HTW := Lib.hid hTW
        have HFl := Lib.hid hFl
        have HF1n := Lib.hid hF1
        have HF2n := Lib.hid hF2
        have HDD := Lib.hid (show W3.heap.size ≤ D3 ∧ W.heap[D3]? = some (.deferred (some [])) from ⟨hD, hKD⟩)
        have HD1n := Lib.hid hD1
        have HD2n := Lib.hid hD2
        have HD13 : Hid (D2 < D3) := Lib.hid (by have h1 := hD; have h2 := HD2.out.2.1; omega)
        clear ht hTW hFl hF1 hF2 hD1 hD2 hI hD hKD hN hSW hS' hElW hNum hSz
        gi_wp2
        have h1 : W.heap[D3]? = some (.deferred (some [])) := HDD.out.2
        have h2 : (W.putObj D3 (.deferred none)).heap[D2]? = some (.deferred (some [])) := (World.putObj_heap_other (by have := HD13.out; omega)).trans HD2n.out.2.2
        have h3 : ((W.putObj D3 (.deferred none)).putObj D2 (.deferred none)).heap[D1]? = some (.deferred (some [])) := (World.putObj_heap_other (by have := HLt12.out; omega)).trans ((World.putObj_heap_other (by have := HLt12.out; have := HD13.out; omega)).trans HD1n.out.2.2)
        obtain ⟨rfl, rfl, rfl, rfl, rfl, rfl⟩ := HNum.out
        have b1 : n + 7 ≤ D1 := HD1n.out.1
        have b2 : n + 7 ≤ D2 := HD2n.out.1
        have b3 : n + 7 ≤ D3 := by have := HD13.out; omega
        have hT := ((HTW.out.put (o := .deferred none) b3 h1).put (o := .deferred none) b2 h2).put (o := .deferred none) b1 h3
        have hA := ((HF1n.out.put (o := .deferred none) h1 (by omega)).put (o := .deferred none) h2 (by omega)).put (o := .deferred none) h3 (by omega)
        have hB := ((HF2n.out.put (o := .deferred none) h1 (by omega)).put (o := .deferred none) h2 (by omega)).put (o := .deferred none) h3 (by omega)
        have hC := ((HFl.out.put (o := .deferred none) h1 (by omega)).put (o := .deferred none) h2 (by omega)).put (o := .deferred none) h3 (by omega)
        have hR := HR.out _ hT hA hB hC
        refine ⟨by simp, .inl ⟨_, _, rfl, run_takeDeferred h1, ?_⟩⟩
        refine ⟨by simp, .inl ⟨_, _, rfl, run_takeDeferred h2, ?_⟩⟩
        refine ⟨by simp, .inl ⟨_, _, rfl, run_takeDeferred h3, ?_⟩⟩
        exact ⟨_, by simp [results, Tryz.results35], hR⟩
end Go.Ab
namespace Go.Ab
set_option maxRecDepth 8000
open Go.Proofs Go.RowKit
set_option linter.unusedVariables false
set_option linter.unusedSimpArgs false
theorem shapeL_some {s : Nat} {L : List (List PV)} (h : shapeL s L = true) : L.length ≤ 1000000000000 ∧ ∀ (j : Nat) (c : List PV), L[j]? = some c → c.length = s ∧ ∃ t l, c = .str t :: l := by
  unfold shapeL at h
  rw [bf_and, Bool.and_eq_true, allL_eq, List.all_eq_true, len_eq] at h
  refine ⟨Nat.le_of_ble_eq_true h.1, fun j c hc => ?_⟩
  have := h.2 c (List.mem_of_getElem? hc)
  rw [bf_and, Bool.and_eq_true, len_eq] at this
  refine ⟨Nat.eq_of_beq_eq_true this.1, ?_⟩
  have h2 := this.2
  cases c with
  | nil => cases h2
  | cons v l => cases v <;> first | cases h2; done | exact ⟨_, l, rfl⟩
/-- A frozen slice, by its cells. -/
theorem fz_elems {w : World} {O O' : Bl} {L : List (List PV)} {s : Nat} {x : Value} (hp : PRel w O (.fz L) x) (hs : shapeL s L = true) (hO : ∀ b, b < w.heap.size → O' b → O b) :
    ∃ ad cap f, x = .slice ad L.length cap ∧ Elems w O' L s f ∧ LocAt w ad L.length s f ∧ L.length ≤ 1000000000000 := by
  obtain ⟨hlen, hsh⟩ := shapeL_some hs
  obtain ⟨ad, cap, rfl, hcap, hl⟩ := hp.fz_inv
  rcases hl with rfl | ⟨b, base, s', rfl, hF⟩
  · exact ⟨ad, cap, fun _ _ => .bool false, rfl, ⟨fun j c h => (by simp at h), fun j c q v h => (by simp at h), fun _ _ => rfl⟩, .inl rfl, hlen⟩
  · by_cases hne : L = []
    · subst hne
      exact ⟨_, cap, fun _ _ => .bool false, rfl, ⟨fun j c h => (by simp at h), fun j c q v h => (by simp at h), fun _ _ => rfl⟩, .inl rfl, hlen⟩
    · have hss : s' = s := by
        cases L with
        | nil => exact absurd rfl hne
        | cons c l =>
          have h1 := hF.len 0 c rfl
          have h2 := (hsh 0 c rfl).1
          omega
      subst hss
      have key : ∀ j q, j < L.length → q < s' → ∃ x, w.cell? ⟨b, base + j * s' + q, none⟩ = some x ∧ CellV x ∧ ∀ c v, L[j]? = some c → c[q]? = some v → PRel w O v x := by
        intro j q hj hq
        have hL := List.getElem?_eq_getElem hj
        have hcl := hF.len j _ hL
        have hc := List.getElem?_eq_getElem (show q < L[j].length by omega)
        obtain ⟨x, h1, h2, h3⟩ := hF.at_ j q _ _ hL hc
        refine ⟨x, h1, h2, fun c v e1 e2 => ?_⟩
        rw [hL] at e1
        cases e1
        rw [hc] at e2
        cases e2
        exact h3
      refine ⟨_, cap, fun j q => if j < L.length ∧ q < s' then (w.cell? ⟨b, base + j * s' + q, none⟩).getD (.bool false) else .bool false, rfl, ⟨hsh, fun j c q v h1 h2 => ?_, fun j q => ?_⟩, .inr ⟨b, base, rfl, hF.lt, fun j q hj hq => ?_⟩, hlen⟩
      · have hj := (List.getElem?_eq_some_iff.1 h1).1
        have hq : q < s' := by
          have := (List.getElem?_eq_some_iff.1 h2).1
          rw [hF.len j c h1] at this
          exact this
        obtain ⟨x, k1, k2, k3⟩ := key j q hj hq
        rw [if_pos ⟨hj, hq⟩, k1]
        exact (k3 c v h1 h2).mono (.refl _ _) hO
      · split
        · rename_i h
          obtain ⟨x, k1, k2, k3⟩ := key j q h.1 h.2
          rw [k1]
          exact k2
        · rfl
      · obtain ⟨x, k1, k2, k3⟩ := key j q hj hq
        show _ = some (if j < L.length ∧ q < s' then _ else _)
        rw [if_pos (And.intro hj hq), k1]
        rfl
theorem ext35_ok {vs : List AV} {M M' : Mem} {r : Rs} (h : ext35 vs M = some (r, M')) : RunOk Tryz.prog 35 vs M r M' := by
  intro G w xs hS hRL
  unfold ext35 at h
  split at h <;> try (cases h; done)
  rename_i A B C
  obtain ⟨hsA, h⟩ := bf_some.1 h
  obtain ⟨hsB, h⟩ := bf_some.1 h
  obtain ⟨hsC, h⟩ := bf_some.1 h
  obtain ⟨mA, hmA, h⟩ := ob_some.1 h
  obtain ⟨mB, hmB, h⟩ := ob_some.1 h
  obtain ⟨mC, hmC, h⟩ := ob_some.1 h
  cases h
  rw [len_eq] at hmA hmB hmC
  obtain ⟨x, rfl⟩ : ∃ x, xs = [x] := by
    have := hRL.1
    match xs, this with
    | [x], _ => exact ⟨x, rfl⟩
  have hx := hRL.2 0 _ x rfl rfl
  obtain ⟨y1, y2, y3, rfl, hy1, hy2, hy3⟩ : ∃ y1 y2 y3, x = .agg #[y1, y2, y3] ∧ PRel w (Own M.objs G) (.fz A) y1 ∧ PRel w (Own M.objs G) (.fz B) y2 ∧ PRel w (Own M.objs G) (.fz C) y3 := by
    obtain ⟨hx, _⟩ := hx
    cases hx with
    | p _ _ hp =>
      cases hp with
      | agg _ vs hl hv hh =>
        match vs, hl, hh with
        | [y1, y2, y3], _, hh => exact ⟨y1, y2, y3, rfl, hh 0 _ _ rfl rfl, hh 1 _ _ rfl rfl, hh 2 _ _ rfl rfl⟩
  have hOO : ∀ b, b < w.heap.size → (Own M.objs G b ∨ w.heap.size ≤ b) → Own M.objs G b := fun b hb h => h.resolve_right (by omega)
  obtain ⟨aA, cA, fA, rfl, eA, lA, nA⟩ := fz_elems (O' := fun b => Own M.objs G b ∨ w.heap.size ≤ b) hy1 hsA hOO
  obtain ⟨aB, cB, fB, rfl, eB, lB, nB⟩ := fz_elems (O' := fun b => Own M.objs G b ∨ w.heap.size ≤ b) hy2 hsB hOO
  obtain ⟨aC, cC, fC, rfl, eC, lC, nC⟩ := fz_elems (O' := fun b => Own M.objs G b ∨ w.heap.size ≤ b) hy3 hsC hOO
  refine ⟨⟨_, Tryz.func35, by kernel_rfl, by kernel_rfl⟩, t35 (fun b => Own M.objs G b ∨ w.heap.size ≤ b) G A B C fA fB fC aA aB aC _ _ _ cA cB cC w _ (Lib.hid eA) (Lib.hid eB) (Lib.hid eC) (Lib.hid rfl) (Lib.hid rfl) (Lib.hid rfl) (Lib.hid lA) (Lib.hid lB) (Lib.hid lC) (Lib.hid ⟨nA, nB, nC⟩) (Lib.hid fun b hb => .inr hb) (Lib.hid fun W' hT hA hB hC => ?_)⟩
  have hE : Ev (fun _ => False) w W' := { os := hT.e3.1, tape := hT.e3.2.1, output := hT.e3.2.2, size := hT.gr.size, keep := fun b hb _ => hT.old b hb, shape := fun b c e f hc => ⟨c, hT.gr.keep b c e f hc, rfl⟩ }
  have hsz := hT.size
  let G' : Gm := ⟨fun i => if i < M.next then G.f i else if i = M.next + 4 then ⟨w.heap.size + 5, 0, 7⟩ else ⟨w.heap.size + 1 + (i - M.next), 0, 0⟩, G.X⟩
  have g0 : G' M.next = ⟨w.heap.size + 1, 0, 0⟩ := by
    show (if M.next < M.next then _ else if M.next = M.next + 4 then _ else _) = _
    rw [if_neg (by omega), if_neg (by omega)]
    rw [show w.heap.size + 1 + (M.next - M.next) = w.heap.size + 1 by omega]
  have g1 : G' (M.next + 1) = ⟨w.heap.size + 2, 0, 0⟩ := by
    show (if M.next + 1 < M.next then _ else if M.next + 1 = M.next + 4 then _ else _) = _
    rw [if_neg (by omega), if_neg (by omega)]
    rw [show w.heap.size + 1 + (M.next + 1 - M.next) = w.heap.size + 2 by omega]
  have g2 : G' (M.next + 2) = ⟨w.heap.size + 3, 0, 0⟩ := by
    show (if M.next + 2 < M.next then _ else if M.next + 2 = M.next + 4 then _ else _) = _
    rw [if_neg (by omega), if_neg (by omega)]
    rw [show w.heap.size + 1 + (M.next + 2 - M.next) = w.heap.size + 3 by omega]
  have g3 : G' (M.next + 3) = ⟨w.heap.size + 4, 0, 0⟩ := by
    show (if M.next + 3 < M.next then _ else if M.next + 3 = M.next + 4 then _ else _) = _
    rw [if_neg (by omega), if_neg (by omega)]
    rw [show w.heap.size + 1 + (M.next + 3 - M.next) = w.heap.size + 4 by omega]
  have g4 : G' (M.next + 4) = ⟨w.heap.size + 5, 0, 7⟩ := by
    show (if M.next + 4 < M.next then _ else if M.next + 4 = M.next + 4 then _ else _) = _
    rw [if_neg (by omega), if_pos rfl]
  let news : Objs := [(M.next + 4, .cells [[.p (.fz A), .p (.fz B), .p (.fz C), .map M.next, .map (M.next + 1), .map (M.next + 2), .map (M.next + 3)]]), (M.next, .pmap mA), (M.next + 1, .pmap mB), (M.next + 2, .pmap mC), (M.next + 3, .pmap [])]
  have hnews : ∀ id o, getO id news = some o → (id = M.next + 4 ∧ o = .cells [[.p (.fz A), .p (.fz B), .p (.fz C), .map M.next, .map (M.next + 1), .map (M.next + 2), .map (M.next + 3)]]) ∨ (id = M.next ∧ o = .pmap mA) ∨ (id = M.next + 1 ∧ o = .pmap mB) ∨ (id = M.next + 2 ∧ o = .pmap mC) ∨ (id = M.next + 3 ∧ o = .pmap []) := by
    intro id o h
    have := getO_mem h
    simpa [news] using this
  have hown : ∀ b, Own (news ++ M.objs) G' b → Own M.objs G b ∨ w.heap.size ≤ b := by
    rintro b (h | ⟨id, o, ⟨h1, h1'⟩, h2⟩)
    · exact .inl (.inl h)
    · rw [getO_append] at h1
      cases hn : getO id news with
      | some o' =>
        right
        rw [← h2]
        rcases hnews id o' hn with ⟨rfl, _⟩ | ⟨rfl, _⟩ | ⟨rfl, _⟩ | ⟨rfl, _⟩ | ⟨rfl, _⟩
        · rw [g4]; simp only; omega
        · rw [g0]; simp only; omega
        · rw [g1]; simp only; omega
        · rw [g2]; simp only; omega
        · rw [g3]; simp only; omega
      | none =>
        rw [hn] at h1
        have h1 : getO id M.objs = some o := by simpa using h1
        have hlt : id < M.next := hS.wf id o h1
        left
        refine .inr ⟨id, o, ⟨h1, h1'⟩, ?_⟩
        rw [← h2]
        show (G.f id).b = (if id < M.next then G.f id else _).b
        rw [if_pos hlt]
  have hpm : ∀ {p : PV} {x : Value}, PRel W' (fun b => Own M.objs G b ∨ w.heap.size ≤ b) p x → PRel W' (Own (news ++ M.objs) G') p x := fun h => h.mono (.refl _ _) fun b _ k => hown b k
  have hpw : ∀ {p : PV} {x : Value}, PRel w (Own M.objs G) p x → PRel W' (Own (news ++ M.objs) G') p x := fun h => h.mono (hE.mono fun _ h => h.elim) fun b hb k => hOO b hb (hown b k)
  have hmap : ∀ {b : Nat} {m : List (PV × PV)}, MapAt W' (fun b => Own M.objs G b ∨ w.heap.size ≤ b) G b (vals m) → MapAt W' (Own (news ++ M.objs) G') G' b (vals m) := by
    rintro b m ⟨es, ck, h1, h2, h3⟩
    refine ⟨es, ck, h1, h2, fun i k v e hm he => ?_⟩
    obtain ⟨k1, k2⟩ := h3 i k v e hm he
    refine ⟨hpm k1, ?_⟩
    obtain ⟨p, rfl⟩ : ∃ p, v = .p p := by
      unfold vals at hm
      rw [List.getElem?_map, Option.map_eq_some_iff] at hm
      obtain ⟨q, _, hq⟩ := hm
      cases hq
      exact ⟨_, rfl⟩
    cases k2 with
    | p _ _ k2 => exact .p _ _ (hpm k2)
  have hMA : ∀ {b : Nat} {L : List (List PV)} {m : List (PV × PV)}, MapF W' (fun b => Own M.objs G b ∨ w.heap.size ≤ b) G b L → insL L (backTo L.length L.length) [] = some m → MapAt W' (Own (news ++ M.objs) G') G' b (vals m) := by
    rintro b L m ⟨l, h1, h2⟩ h3
    rw [h1] at h3
    cases h3
    exact hmap h2
  have hP : Post M.objs (Lt M.next) G w (news ++ M.objs) (Lt (M.next + 5)) G' W' := by
    refine Post.adopt hS hE (by omega) (fun i hi => ?_) rfl (fun id o h => ?_) (fun id o h => ?_) (fun id o id' o' h h' he => ?_) (fun id o h => ?_) (fun id o h r hr => ?_)
    · show (if i < M.next then G.f i else _) = _
      rw [if_pos hi]
    · rcases hnews id o h with ⟨rfl, _⟩ | ⟨rfl, _⟩ | ⟨rfl, _⟩ | ⟨rfl, _⟩ | ⟨rfl, _⟩ <;> omega
    · rcases hnews id o h.1 with ⟨rfl, _⟩ | ⟨rfl, _⟩ | ⟨rfl, _⟩ | ⟨rfl, _⟩ | ⟨rfl, _⟩
      · rw [g4]; simp only; omega
      · rw [g0]; simp only; omega
      · rw [g1]; simp only; omega
      · rw [g2]; simp only; omega
      · rw [g3]; simp only; omega
    · rcases hnews id o h.1 with ⟨rfl, _⟩ | ⟨rfl, _⟩ | ⟨rfl, _⟩ | ⟨rfl, _⟩ | ⟨rfl, _⟩ <;> rcases hnews id' o' h'.1 with ⟨rfl, _⟩ | ⟨rfl, _⟩ | ⟨rfl, _⟩ | ⟨rfl, _⟩ | ⟨rfl, _⟩ <;> first | rfl | (exfalso; simp only [g0, g1, g2, g3, g4] at he; omega)
    · rcases hnews id o h.1 with ⟨rfl, rfl⟩ | ⟨rfl, rfl⟩ | ⟨rfl, rfl⟩ | ⟨rfl, rfl⟩ | ⟨rfl, rfl⟩
      · rw [g4]
        refine ⟨_, _, hT.k, by simp, by simp, fun i cs hi => ?_⟩
        cases i with
        | succ i => simp at hi
        | zero =>
          simp at hi
          subst hi
          refine ⟨rfl, fun j v hv => ?_⟩
          match j, hv with
          | 0, hv => cases hv; exact ⟨_, rfl, rfl, .p _ _ (hpw hy1)⟩
          | 1, hv => cases hv; exact ⟨_, rfl, rfl, .p _ _ (hpw hy2)⟩
          | 2, hv => cases hv; exact ⟨_, rfl, rfl, .p _ _ (hpw hy3)⟩
          | 3, hv => cases hv; refine ⟨_, rfl, rfl, ?_⟩; have := AVRel.map (w := W') (O := Own (news ++ M.objs) G') (G := G') M.next; rw [g0] at this; exact this
          | 4, hv => cases hv; refine ⟨_, rfl, rfl, ?_⟩; have := AVRel.map (w := W') (O := Own (news ++ M.objs) G') (G := G') (M.next + 1); rw [g1] at this; exact this
          | 5, hv => cases hv; refine ⟨_, rfl, rfl, ?_⟩; have := AVRel.map (w := W') (O := Own (news ++ M.objs) G') (G := G') (M.next + 2); rw [g2] at this; exact this
          | 6, hv => cases hv; refine ⟨_, rfl, rfl, ?_⟩; have := AVRel.map (w := W') (O := Own (news ++ M.objs) G') (G := G') (M.next + 3); rw [g3] at this; exact this
          | n + 7, hv => simp at hv
      · rw [g0]; exact hMA hA hmA
      · rw [g1]; exact hMA hB hmB
      · rw [g2]; exact hMA hC hmC
      · rw [g3]; exact ⟨#[], 0, hT.m4, .zero, fun i k v e h1 => (by simp at h1)⟩
    · rcases hnews id o h.1 with ⟨rfl, rfl⟩ | ⟨rfl, rfl⟩ | ⟨rfl, rfl⟩ | ⟨rfl, rfl⟩ | ⟨rfl, rfl⟩ <;> first | (cases hr; done) | skip
      simp [refsO] at hr
      omega
  refine ⟨G', hP, by simp, _, rfl, ?_, fun r hr => ?_⟩
  · have := AVRel.ptr (w := W') (O := Own (news ++ M.objs) G') (G := G') (M.next + 4) 0 0
    rw [g4] at this
    show AVRel W' (Own (news ++ M.objs) G') G' _ _
    simpa using this
  · simp at hr
    subst hr
    show M.next + 4 < M.next + 5
    omega
end Go.Ab
