/- Contract of image.Write. -/
import Derived.Test.YtgdiaaoekkdibaaC2
namespace Go.Proofs.Ytgdiaaoekkdibaa
set_option linter.unusedVariables false
set_option linter.unusedSimpArgs false
open Go.RowKit
def WritePost (I : Img) (b a : Int) (t : ByteArray) (w : World) (e : Ending) (w' : World) : Prop := ∃ v, e = .returned (.tuple #[v, .int .i64 (writeI I b a t).2]) ∧ OwnedImg (writeI I b a t).1 v w' ∧ Below w.heap.size w w'
theorem setAll_own {B E size n N : Nat} {v : Value} {xs : List Value} (hN : N < B) : ∀ (vs : List Value) (k : Nat) (W : World), W.ownsRow B E size v n xs → (setAll N vs k W).ownsRow B E size v n xs
  | [], _, _, h => h
  | u :: vs, k, W, h => setAll_own hN vs (k + 1) _ (own_set h hN)
set_option maxRecDepth 8000 in
set_option maxHeartbeats 8000000 in
theorem write_any (p1 : Option Addr) (p4 : Nat) (p2 : Option Addr) (p5 : Nat) (p3 : Option Addr) (p6 : Nat) (I : Img) (b a : Int) (t : ByteArray) (w : World) (hI : ImgAt w p1 p2 p3 I) (hb : OkI64 b) (ha : OkU16 a) (ht : t.size ≤ 4096) (n1 : I.banks.length ≤ 100000) (n2 : I.data.length ≤ 100000) (n3 : I.relocs.length ≤ 100000) (hB : ∀ s ∈ I.banks, s.size ≤ 4096) (Rr : Ending → World → Prop) (HR : Hid (∀ e w', WritePost I b a t w e w' → Rr e w')) :
    Calls Try.prog 40 #[imgV p1 p4 p2 p5 p3 p6 I, .agg #[.int .i64 b, .int .u16 a], .string t] w Rr := by
  have KI := Lib.hid hI
  have KB := Lib.hid hB
  have Kb := Lib.hid hb
  have Ka := Lib.hid ha
  have M0 := wmem_start w (.slice p1 I.banks.length p4) (.int .u16 I.entry) (.int .u16 I.vector) (.slice p2 I.data.length p5) (.slice p3 I.relocs.length p6) (.int .i64 b) (.int .u16 a)
  have KZ := Lib.hid (fun V (hb : Below (((w.alloc (Obj.cells #[.slice p1 I.banks.length p4, .int .u16 I.entry, .int .u16 I.vector, .slice p2 I.data.length p5, .slice p3 I.relocs.length p6] 30)).alloc (Obj.cells #[Value.int IntKind.i64 b, Value.int IntKind.u16 a] 55)).alloc (Obj.cells #[Value.slice none 0 0, Value.int IntKind.u16 0, Value.int IntKind.u16 0, Value.slice none 0 0, Value.slice none 0 0] 30)).heap.size (((w.alloc (Obj.cells #[.slice p1 I.banks.length p4, .int .u16 I.entry, .int .u16 I.vector, .slice p2 I.data.length p5, .slice p3 I.relocs.length p6] 30)).alloc (Obj.cells #[Value.int IntKind.i64 b, Value.int IntKind.u16 a] 55)).alloc (Obj.cells #[Value.slice none 0 0, Value.int IntKind.u16 0, Value.int IntKind.u16 0, Value.slice none 0 0, Value.slice none 0 0] 30)) V) => (M0.next hb))
  have KP : Hid (∀ V, Below (((w.alloc (Obj.cells #[.slice p1 I.banks.length p4, .int .u16 I.entry, .int .u16 I.vector, .slice p2 I.data.length p5, .slice p3 I.relocs.length p6] 30)).alloc (Obj.cells #[Value.int IntKind.i64 b, Value.int IntKind.u16 a] 55)).alloc (Obj.cells #[Value.slice none 0 0, Value.int IntKind.u16 0, Value.int IntKind.u16 0, Value.slice none 0 0, Value.slice none 0 0] 30)).heap.size (((w.alloc (Obj.cells #[.slice p1 I.banks.length p4, .int .u16 I.entry, .int .u16 I.vector, .slice p2 I.data.length p5, .slice p3 I.relocs.length p6] 30)).alloc (Obj.cells #[Value.int IntKind.i64 b, Value.int IntKind.u16 a] 55)).alloc (Obj.cells #[Value.slice none 0 0, Value.int IntKind.u16 0, Value.int IntKind.u16 0, Value.slice none 0 0, Value.slice none 0 0] 30)) V → ∀ k u, (#[Value.slice none 0 0, Value.int IntKind.u16 0, Value.int IntKind.u16 0, Value.slice none 0 0, Value.slice none 0 0] : Array Value)[k]? = some u → V.cell? ⟨w.heap.size + 2, k, none⟩ = some u) := by
    intro V hb k u hk
    have hs : ((w.alloc (Obj.cells #[.slice p1 I.banks.length p4, .int .u16 I.entry, .int .u16 I.vector, .slice p2 I.data.length p5, .slice p3 I.relocs.length p6] 30)).alloc (Obj.cells #[Value.int IntKind.i64 b, Value.int IntKind.u16 a] 55)).heap.size = w.heap.size + 2 := by simp
    have e := (made_cells hb k u hk).1
    rwa [hs] at e
  clear hI hB hb ha M0
  have hO := fun (W : World) (h : ImgAt W p1 p2 p3 I) => offset_any p1 p4 p2 p5 p3 p6 I b a W h Kb.out Ka.out
  show Calls Try.prog 40 #[.agg #[.slice p1 I.banks.length p4, .int .u16 I.entry, .int .u16 I.vector, .slice p2 I.data.length p5, .slice p3 I.relocs.length p6], .agg #[.int .i64 b, .int .u16 a], .string t] w Rr
  rcases offI_cases I.banks b a with hc | ⟨hc, hcode, hl, hm⟩
  · have HV := Lib.hid (writeI_no I b a t (by rw [hc]))
    rw [hc] at hO
    have HO := Lib.hid hO
    clear hO hc
    go_enter Try.func40, Try.ntmps40
    go_wp2_with fail
    generalize hW0 : (((w.alloc (Obj.cells #[.slice p1 I.banks.length p4, .int .u16 I.entry, .int .u16 I.vector, .slice p2 I.data.length p5, .slice p3 I.relocs.length p6] 30)).alloc (Obj.cells #[Value.int IntKind.i64 b, Value.int IntKind.u16 a] 55)).alloc (Obj.cells #[Value.slice none 0 0, Value.int IntKind.u16 0, Value.int IntKind.u16 0, Value.slice none 0 0, Value.slice none 0 0] 30)) = W0 at *
    have K0 : Hid (Below w.heap.size w W0) := Lib.hid (KZ.out W0 (Below.refl _ _)).below
    clear hW0
    refine (HO.out _ (KI.out.kept K0.out)).mono ?_
    rintro e w2 ⟨rfl, h2⟩
    have K2 := Lib.hid h2
    clear h2
    have hm := KZ.out _ K2.out
    have z0 := KP.out _ K2.out 0 _ rfl
    have g0 := hm.ft 0
    have z1 := KP.out _ K2.out 1 _ rfl
    have g1 := hm.ft 1
    have z2 := KP.out _ K2.out 2 _ rfl
    have g2 := hm.ft 2
    have z3 := KP.out _ K2.out 3 _ rfl
    have g3 := hm.ft 3
    have z4 := KP.out _ K2.out 4 _ rfl
    have g4 := hm.ft 4
    have i0 := hm.n 0 _ rfl
    have KM := Lib.hid hm
    clear hm
    have HS := Lib.hid (set5 w2 (w.heap.size + 2) (.slice none 0 0) (.int .u16 0) (.int .u16 0) (.slice none 0 0) (.slice none 0 0) _ _ _ _ _ z0 z1 z2 z3 z4)
    have KF : Hid (Below w.heap.size w (setAll (w.heap.size + 2) [.slice none 0 0, .int .u16 0, .int .u16 0, .slice none 0 0, .slice none 0 0] 0 w2)) := Lib.hid (setAll_below (by omega) _ 0 _ KM.out.below)
    simp only [setAll] at KF
    go_wp2_with fail
    obtain ⟨x0, x1, x2, x3, x4⟩ := HS.out
    clear z0 z1 z2 z3 z4 g0 g1 g2 g3 g4 HS i0
    generalize (((((w2.setCell ⟨w.heap.size + 2, 0, none⟩ (Value.slice none 0 0)).setCell ⟨w.heap.size + 2, 1, none⟩ (Value.int IntKind.u16 0)).setCell ⟨w.heap.size + 2, 2, none⟩ (Value.int IntKind.u16 0)).setCell ⟨w.heap.size + 2, 3, none⟩ (Value.slice none 0 0)).setCell ⟨w.heap.size + 2, 4, none⟩ (Value.slice none 0 0)) = WF at *
    exact bodyPost_ret (v := .tuple #[.agg #[.slice none 0 0, .int .u16 0, .int .u16 0, .slice none 0 0, .slice none 0 0], .int .i64 37]) (by simp [results, Try.results40, go_sem, x0, x1, x2, x3, x4]) rfl (HR.out _ _ ⟨_, by rw [HV.out], by rw [HV.out]; exact ⟨none, 0, none, 0, none, 0, rfl, empty_at _ _ _ _⟩, KF.out⟩)
  have b2 : 0 ≤ b := hcode.1
  clear hcode
  obtain ⟨s, hs⟩ := at_some I.banks b.toNat (by omega)
  have hbk : bankAt I.banks b = s := by unfold bankAt; rw [hs]; rfl
  have hsB : s.size ≤ 4096 := KB.out s (List.mem_of_getElem? hs)
  rw [hbk] at hm
  obtain ⟨M, hM⟩ : ∃ M : Nat, a % 4096 = (M : Int) := ⟨(a % 4096).toNat, by omega⟩
  rw [hM] at hm
  have hok : (offI I.banks b a).2.2 = true := by rw [hc]
  rw [hc, hM] at hO
  have HO := Lib.hid hO
  clear hO hc
  have hm2 : M ≤ s.size := by omega
  have KS := Lib.hid hs
  have hw1 : IntKind.i64.wrap ((s.size : Int) - M) = s.size - M := IntWalk.i64_in _ (by omega)
  have hbl : b < (I.banks.length : Int) := hl
  have KC : Hid (∃ B, p1 = some ⟨B, 0, none⟩ ∧ B < w.heap.size ∧ w.cell? ⟨B, b.toNat, none⟩ = some (.string s)) := Lib.hid (by obtain ⟨B, h1, h2, h3, _⟩ := KI.out.banks b.toNat s hs; exact ⟨B, h1, h2, h3⟩)
  by_cases hfit : (t.size : Int) ≤ s.size - M
  · have HV := Lib.hid (writeI_yes I b a t s M hok hbk hM hfit)
    have hfb : decide ((s.size : Int) - M < (t.size : Int)) = false := decide_eq_false (by omega)
    clear hs hbk hM hok
    obtain ⟨B1, hp1, hB1, hc1⟩ := KC.out
    subst hp1
    go_enter Try.func40, Try.ntmps40
    go_wp2_with fail
    generalize hW0 : (((w.alloc (Obj.cells #[.slice (some ⟨B1, 0, none⟩) I.banks.length p4, .int .u16 I.entry, .int .u16 I.vector, .slice p2 I.data.length p5, .slice p3 I.relocs.length p6] 30)).alloc (Obj.cells #[Value.int IntKind.i64 b, Value.int IntKind.u16 a] 55)).alloc (Obj.cells #[Value.slice none 0 0, Value.int IntKind.u16 0, Value.int IntKind.u16 0, Value.slice none 0 0, Value.slice none 0 0] 30)) = W0 at *
    have K0 : Hid (Below w.heap.size w W0) := Lib.hid (KZ.out W0 (Below.refl _ _)).below
    clear hW0
    refine (HO.out _ (KI.out.kept K0.out)).mono ?_
    rintro e w2 ⟨rfl, h2⟩
    have K2 := Lib.hid h2
    clear h2
    have hm := KZ.out _ K2.out
    have i0 := hm.n 0 _ rfl
    have cb := (K2.out.cell (p := ⟨B1, b.toNat, none⟩) (Nat.lt_of_lt_of_le hB1 K0.out.size)).trans ((K0.out.cell (p := ⟨B1, b.toNat, none⟩) hB1).trans hc1)
    clear hm hc1
    go_wp2_with fail
    clear i0 cb
    refine' wp_region_flowS 10 [10, 12, 14] [[], [(35, 0)], [(36, 1)], [], [(38, 3)], [(39, 4)], [], [(41, 6)], [(42, 7)], [], [(44, 9), (37, 2)], [], [(45, 11), (40, 5)], [], [(46, 13), (43, 8)]] [(35, 0), (36, 1), (37, 2), (38, 3), (39, 4), (40, 5), (41, 6), (42, 7), (43, 8), (44, 9), (45, 11), (46, 13)] (relL [eqV _, eqV _, RowOf (w.heap.size + 3) 9 1 I.banks.length (I.banks.map Value.string), eqV _, eqV _, RowOf (w.heap.size + 3) 39 3 I.data.length (I.data.flatMap ObjI.cells), eqV _, eqV _, RowOf (w.heap.size + 3) 41 2 I.relocs.length (I.relocs.flatMap RelI.cells), eqV _, fun v V => True, eqV _, fun v V => True, eqV _, fun v V => True]) [(10, _), (12, _), (14, _)] (by kernel_rfl) (by kernel_rfl) rfl ?_ ?_
    rotate_left 9
    · refine FlowS.mem (by decide) ?_ ?_
      · intro V hV
        simp only [Dep, Act.put, List.setIfInBounds_toArray, List.set_cons_zero, List.set_cons_succ]
        intro K hK
        go_simp
        refine hK _ _ ?_ (Below.refl _ _)
        simp only [relL, eqV]
        exact rfl
      refine FlowS.mem (by decide) ?_ ?_
      · intro V hV
        simp only [Dep, Act.put, List.setIfInBounds_toArray, List.set_cons_zero, List.set_cons_succ]
        rintro x35 ⟨V35, rfl, hb35⟩
        intro K hK
        have i0 := (KZ.out V (below_next K2.out hV)).n 0 _ rfl
        go_simp
        refine hK _ _ ?_ (Below.refl _ _)
        simp only [relL, eqV]
        exact rfl
      refine FlowS.mem (by decide) ?_ ?_
      · intro V hV
        simp only [Dep, Act.put, List.setIfInBounds_toArray, List.set_cons_zero, List.set_cons_succ]
        rintro x36 ⟨V36, rfl, hb36⟩
        intro K hK
        go_simp
        go_at_call 71
        refine (clone_strs (some ⟨B1, 0, none⟩) p4 I.banks V (by omega) (KI.out.kept (below_next K0.out (below_next K2.out hV))).banks).mono ?_
        rintro e w9 ⟨v, rfl, ho, h9⟩
        exact hK _ _ (own_mono ho (by have := (KZ.out V (below_next K2.out hV)).size; omega)) h9
      refine FlowS.mem (by decide) ?_ ?_
      · intro V hV
        simp only [Dep, Act.put, List.setIfInBounds_toArray, List.set_cons_zero, List.set_cons_succ]
        intro K hK
        go_simp
        refine hK _ _ ?_ (Below.refl _ _)
        simp only [relL, eqV]
        exact rfl
      refine FlowS.mem (by decide) ?_ ?_
      · intro V hV
        simp only [Dep, Act.put, List.setIfInBounds_toArray, List.set_cons_zero, List.set_cons_succ]
        rintro x38 ⟨V38, rfl, hb38⟩
        intro K hK
        have i3 := (KZ.out V (below_next K2.out hV)).n 3 _ rfl
        go_simp
        refine hK _ _ ?_ (Below.refl _ _)
        simp only [relL, eqV]
        exact rfl
      refine FlowS.mem (by decide) ?_ ?_
      · intro V hV
        simp only [Dep, Act.put, List.setIfInBounds_toArray, List.set_cons_zero, List.set_cons_succ]
        rintro x39 ⟨V39, rfl, hb39⟩
        intro K hK
        go_simp
        go_at_call 72
        refine (clone_objs p2 p5 I.data V (by omega) (KI.out.kept (below_next K0.out (below_next K2.out hV))).data).mono ?_
        rintro e w9 ⟨v, rfl, ho, h9⟩
        exact hK _ _ (own_mono ho (by have := (KZ.out V (below_next K2.out hV)).size; omega)) h9
      refine FlowS.mem (by decide) ?_ ?_
      · intro V hV
        simp only [Dep, Act.put, List.setIfInBounds_toArray, List.set_cons_zero, List.set_cons_succ]
        intro K hK
        go_simp
        refine hK _ _ ?_ (Below.refl _ _)
        simp only [relL, eqV]
        exact rfl
      refine FlowS.mem (by decide) ?_ ?_
      · intro V hV
        simp only [Dep, Act.put, List.setIfInBounds_toArray, List.set_cons_zero, List.set_cons_succ]
        rintro x41 ⟨V41, rfl, hb41⟩
        intro K hK
        have i4 := (KZ.out V (below_next K2.out hV)).n 4 _ rfl
        go_simp
        refine hK _ _ ?_ (Below.refl _ _)
        simp only [relL, eqV]
        exact rfl
      refine FlowS.mem (by decide) ?_ ?_
      · intro V hV
        simp only [Dep, Act.put, List.setIfInBounds_toArray, List.set_cons_zero, List.set_cons_succ]
        rintro x42 ⟨V42, rfl, hb42⟩
        intro K hK
        go_simp
        go_at_call 73
        refine (clone_rels p3 p6 I.relocs V (by omega) (KI.out.kept (below_next K0.out (below_next K2.out hV))).relocs).mono ?_
        rintro e w9 ⟨v, rfl, ho, h9⟩
        exact hK _ _ (own_mono ho (by have := (KZ.out V (below_next K2.out hV)).size; omega)) h9
      refine FlowS.mem (by decide) ?_ ?_
      · intro V hV
        simp only [Dep, Act.put, List.setIfInBounds_toArray, List.set_cons_zero, List.set_cons_succ]
        intro K hK
        go_simp
        refine hK _ _ ?_ (Below.refl _ _)
        simp only [relL, eqV]
        exact rfl
      refine FlowS.store (by decide) rfl ?_
      refine FlowS.val (by decide) _ (fun _ _ => Iff.rfl) ?_ ?_
      · simp only [DepP, Act.put, List.setIfInBounds_toArray, List.set_cons_zero, List.set_cons_succ]
        intro V K hK
        go_simp
        exact hK
      refine FlowS.store (by decide) rfl ?_
      refine FlowS.val (by decide) _ (fun _ _ => Iff.rfl) ?_ ?_
      · simp only [DepP, Act.put, List.setIfInBounds_toArray, List.set_cons_zero, List.set_cons_succ]
        intro V K hK
        go_simp
        exact hK
      refine FlowS.store (by decide) rfl ?_
      exact FlowS.nil
    · intro V hV
      simp only [Dep, Act.put, List.setIfInBounds_toArray, List.set_cons_zero, List.set_cons_succ]
      rintro x35 ⟨V35, rfl, hb35⟩
      rintro x36 ⟨V36, rfl, hb36⟩
      rintro x37 ⟨V37, r1, hb37⟩
      rintro x38 ⟨V38, rfl, hb38⟩
      rintro x39 ⟨V39, rfl, hb39⟩
      rintro x40 ⟨V40, r2, hb40⟩
      rintro x41 ⟨V41, rfl, hb41⟩
      rintro x42 ⟨V42, rfl, hb42⟩
      rintro x43 ⟨V43, r3, hb43⟩
      rintro x44 ⟨V44, rfl, hb44⟩
      rintro x45 ⟨V45, rfl, hb45⟩
      rintro x46 ⟨V46, rfl, hb46⟩
      have o1 := own_next r1 hb37
      have o2 := own_next r2 hb40
      have o3 := own_next r3 hb43
      obtain ⟨q1, e1, rfl, _⟩ := own_slice o1
      obtain ⟨q2, e2, rfl, _⟩ := own_slice o2
      obtain ⟨q3, e3, rfl, _⟩ := own_slice o3
      have hm := KZ.out V (below_next K2.out hV)
      have hlt : w.heap.size < w.heap.size + 3 := by omega
      have KM4 := Lib.hid (((hm.set 0 (.slice q1 I.banks.length e1)).set 3 (.slice q2 I.data.length e2)).set 4 (.slice q3 I.relocs.length e3))
      have KO1 := Lib.hid (own_set (j := 4) (u := .slice q3 I.relocs.length e3) (own_set (j := 3) (u := .slice q2 I.data.length e2) (own_set (j := 0) (u := .slice q1 I.banks.length e1) o1 hlt) hlt) hlt)
      have KO2 := Lib.hid (own_set (j := 4) (u := .slice q3 I.relocs.length e3) (own_set (j := 3) (u := .slice q2 I.data.length e2) (own_set (j := 0) (u := .slice q1 I.banks.length e1) o2 hlt) hlt) hlt)
      have KO3 := Lib.hid (own_set (j := 4) (u := .slice q3 I.relocs.length e3) (own_set (j := 3) (u := .slice q2 I.data.length e2) (own_set (j := 0) (u := .slice q1 I.banks.length e1) o3 hlt) hlt) hlt)
      have i0 := hm.n 0 _ rfl
      have i3 := hm.n 3 _ rfl
      have i4 := hm.n 4 _ rfl
      have f0 := hm.fn 0
      have f3 := hm.fn 3
      have f4 := hm.fn 4
      clear r1 r2 r3 o1 o2 o3 hm hlt hb35 V35 hb36 V36 hb37 V37 hb38 V38 hb39 V39 hb40 V40 hb41 V41 hb42 V42 hb43 V43 hb44 V44 hb45 V45 hb46 V46
      intro K1 hK1
      go_simp
      refine hK1 undef _ ?_
      clear hK1 K1
      intro K1 hK1
      go_simp
      refine hK1 undef _ ?_
      clear hK1 K1
      intro K1 hK1
      go_simp
      refine hK1 undef _ ?_
      clear hK1 K1 i0 i3 i4 f0 f3 f4
      simp only [List.set_cons_zero, List.set_cons_succ] at KM4
      unfold TailS
      generalize ((V.setCell ⟨w.heap.size, 0, none⟩ (.slice q1 I.banks.length e1)).setCell ⟨w.heap.size, 3, none⟩ (.slice q2 I.data.length e2)).setCell ⟨w.heap.size, 4, none⟩ (.slice q3 I.relocs.length e3) = W4 at *
      obtain ⟨g, rfl, hg, hgB, hgc, hgf⟩ := own_addr KO1.out (by omega)
      have hsm : (I.banks.map Value.string)[b.toNat]? = some (.string s) := by rw [List.getElem?_map, KS.out]; rfl
      have KG : Hid (∀ V, Below W4.heap.size W4 V → V.cell? ⟨w.heap.size, 0, none⟩ = some (.slice (some ⟨g, 0, none⟩) I.banks.length e1) ∧ V.cell? ⟨g, b.toNat, none⟩ = some (.string s) ∧ V.frozen? ⟨g, b.toNat, none⟩ = false) := fun V hb => ⟨(KM4.out.next hb).n 0 _ rfl, (hb.cell (p := ⟨g, b.toNat, none⟩) hg).trans (hgc b.toNat _ hsm), (hb.frozen (p := ⟨g, b.toNat, none⟩) hg).trans (hgf b.toNat)⟩
      have Kgb := Lib.hid hgB
      clear hgc hgf hsm hg hgB
      obtain ⟨i0, cb, _⟩ := KG.out _ (Below.refl _ _)
      go_wp2_with fail
      clear i0 cb
      have hw2 : IntKind.i64.wrap ((M : Int) + t.size) = M + t.size := IntWalk.i64_in _ (by omega)
      have hx0 : (0 : Int) ≤ (M : Int) + t.size := by omega
      have hx1 : (M : Int) + t.size ≤ s.size := by omega
      have hx2 : (M : Int) ≤ s.size := by omega
      have htn : ((M : Int) + t.size).toNat = M + t.size := by omega
      have hx3 : ¬ 9223372036854775807 < M + t.size := by omega
      have hx4 : ¬ 9223372036854775807 < M + t.size + (s.size - (M + t.size)) := by omega
      refine' wp_region_flowR [[], [(52, 0)], [], [], [], [(55, 3), (56, 4)], [], [(57, 5), (58, 6)], [], [], [], [(62, 10)], [(61, 9), (63, 11)], [(60, 8), (64, 12)], [(59, 7), (65, 13)], [(53, 1), (54, 2)], [(52, 0), (53, 1), (54, 2), (55, 3), (56, 4), (57, 5), (58, 6), (59, 7), (60, 8), (61, 9), (62, 10), (63, 11), (64, 12), (65, 13), (66, 14), (67, 15)]] (relL [eqV _, eqV _, eqV _, eqV _, eqV _, eqV _, eqV _, eqV _, eqV _, eqV _, eqV _, eqV _, eqV _, eqV _, eqV _, eqV _, fun v V => True]) (by kernel_rfl) (by kernel_rfl) ?_
      rotate_left 16
      refine FlowR.step ?_ ?_
      · intro V hV
        simp only [Dep, Act.put, List.setIfInBounds_toArray, List.set_cons_zero, List.set_cons_succ]
        intro K hK
        go_simp
        refine hK _ _ ?_ (Below.refl _ _)
        simp only [relL, List.getElem?_cons_zero, List.getElem?_cons_succ, eqV]
        exact rfl
      refine FlowR.step ?_ ?_
      · intro V hV
        simp only [Dep, Act.put, List.setIfInBounds_toArray, List.set_cons_zero, List.set_cons_succ]
        rintro x52 ⟨V52, rfl, hb52⟩
        intro K hK
        obtain ⟨i0, _, _⟩ := KG.out V hV
        go_simp
        refine hK _ _ ?_ (Below.refl _ _)
        simp only [relL, List.getElem?_cons_zero, List.getElem?_cons_succ, eqV]
        exact rfl
      refine FlowR.step ?_ ?_
      · intro V hV
        simp only [Dep, Act.put, List.setIfInBounds_toArray, List.set_cons_zero, List.set_cons_succ]
        intro K hK
        go_simp
        refine hK _ _ ?_ (Below.refl _ _)
        simp only [relL, List.getElem?_cons_zero, List.getElem?_cons_succ, eqV]
        exact rfl
      refine FlowR.step ?_ ?_
      · intro V hV
        simp only [Dep, Act.put, List.setIfInBounds_toArray, List.set_cons_zero, List.set_cons_succ]
        intro K hK
        go_simp
        refine hK _ _ ?_ (Below.refl _ _)
        simp only [relL, List.getElem?_cons_zero, List.getElem?_cons_succ, eqV]
        exact rfl
      refine FlowR.step ?_ ?_
      · intro V hV
        simp only [Dep, Act.put, List.setIfInBounds_toArray, List.set_cons_zero, List.set_cons_succ]
        intro K hK
        go_simp
        refine hK _ _ ?_ (Below.refl _ _)
        simp only [relL, List.getElem?_cons_zero, List.getElem?_cons_succ, eqV]
        exact rfl
      refine FlowR.step ?_ ?_
      · intro V hV
        simp only [Dep, Act.put, List.setIfInBounds_toArray, List.set_cons_zero, List.set_cons_succ]
        rintro x55 ⟨V55, rfl, hb55⟩
        rintro x56 ⟨V56, rfl, hb56⟩
        intro K hK
        go_simp
        refine hK _ _ ?_ (Below.refl _ _)
        simp only [relL, List.getElem?_cons_zero, List.getElem?_cons_succ, eqV]
        exact rfl
      refine FlowR.step ?_ ?_
      · intro V hV
        simp only [Dep, Act.put, List.setIfInBounds_toArray, List.set_cons_zero, List.set_cons_succ]
        intro K hK
        go_simp
        refine hK _ _ ?_ (Below.refl _ _)
        simp only [relL, List.getElem?_cons_zero, List.getElem?_cons_succ, eqV]
        exact rfl
      refine FlowR.step ?_ ?_
      · intro V hV
        simp only [Dep, Act.put, List.setIfInBounds_toArray, List.set_cons_zero, List.set_cons_succ]
        rintro x57 ⟨V57, rfl, hb57⟩
        rintro x58 ⟨V58, rfl, hb58⟩
        intro K hK
        go_simp
        refine hK _ _ ?_ (Below.refl _ _)
        simp only [relL, List.getElem?_cons_zero, List.getElem?_cons_succ, eqV]
        exact rfl
      refine FlowR.step ?_ ?_
      · intro V hV
        simp only [Dep, Act.put, List.setIfInBounds_toArray, List.set_cons_zero, List.set_cons_succ]
        intro K hK
        go_simp
        refine hK _ _ ?_ (Below.refl _ _)
        simp only [relL, List.getElem?_cons_zero, List.getElem?_cons_succ, eqV]
        exact rfl
      refine FlowR.step ?_ ?_
      · intro V hV
        simp only [Dep, Act.put, List.setIfInBounds_toArray, List.set_cons_zero, List.set_cons_succ]
        intro K hK
        go_simp
        refine hK _ _ ?_ (Below.refl _ _)
        simp only [relL, List.getElem?_cons_zero, List.getElem?_cons_succ, eqV]
        exact rfl
      refine FlowR.step ?_ ?_
      · intro V hV
        simp only [Dep, Act.put, List.setIfInBounds_toArray, List.set_cons_zero, List.set_cons_succ]
        intro K hK
        go_simp
        refine hK _ _ ?_ (Below.refl _ _)
        simp only [relL, List.getElem?_cons_zero, List.getElem?_cons_succ, eqV]
        exact rfl
      refine FlowR.step ?_ ?_
      · intro V hV
        simp only [Dep, Act.put, List.setIfInBounds_toArray, List.set_cons_zero, List.set_cons_succ]
        rintro x62 ⟨V62, rfl, hb62⟩
        intro K hK
        go_simp
        refine hK _ _ ?_ (Below.refl _ _)
        simp only [relL, List.getElem?_cons_zero, List.getElem?_cons_succ, eqV]
        exact rfl
      refine FlowR.step ?_ ?_
      · intro V hV
        simp only [Dep, Act.put, List.setIfInBounds_toArray, List.set_cons_zero, List.set_cons_succ]
        rintro x61 ⟨V61, rfl, hb61⟩
        rintro x63 ⟨V63, rfl, hb63⟩
        intro K hK
        go_simp
        refine hK _ _ ?_ (Below.refl _ _)
        simp only [relL, List.getElem?_cons_zero, List.getElem?_cons_succ, eqV]
        exact rfl
      refine FlowR.step ?_ ?_
      · intro V hV
        simp only [Dep, Act.put, List.setIfInBounds_toArray, List.set_cons_zero, List.set_cons_succ]
        rintro x60 ⟨V60, rfl, hb60⟩
        rintro x64 ⟨V64, rfl, hb64⟩
        intro K hK
        go_simp
        refine hK _ _ ?_ (Below.refl _ _)
        simp only [relL, List.getElem?_cons_zero, List.getElem?_cons_succ, eqV]
        exact rfl
      refine FlowR.step ?_ ?_
      · intro V hV
        simp only [Dep, Act.put, List.setIfInBounds_toArray, List.set_cons_zero, List.set_cons_succ]
        rintro x59 ⟨V59, rfl, hb59⟩
        rintro x65 ⟨V65, rfl, hb65⟩
        intro K hK
        go_simp
        refine hK _ _ ?_ (Below.refl _ _)
        simp only [relL, List.getElem?_cons_zero, List.getElem?_cons_succ, eqV]
        exact rfl
      refine FlowR.step ?_ ?_
      · intro V hV
        simp only [Dep, Act.put, List.setIfInBounds_toArray, List.set_cons_zero, List.set_cons_succ]
        rintro x53 ⟨V53, rfl, hb53⟩
        rintro x54 ⟨V54, rfl, hb54⟩
        intro K hK
        go_simp
        refine hK _ _ ?_ (Below.refl _ _)
        simp only [relL, List.getElem?_cons_zero, List.getElem?_cons_succ, eqV]
        exact rfl
      refine FlowR.last ?_
      intro V hV
      simp only [Dep, Act.put, List.setIfInBounds_toArray, List.set_cons_zero, List.set_cons_succ]
      rintro x52 ⟨V52, rfl, hb52⟩
      rintro x53 ⟨V53, rfl, hb53⟩
      rintro x54 ⟨V54, rfl, hb54⟩
      rintro x55 ⟨V55, rfl, hb55⟩
      rintro x56 ⟨V56, rfl, hb56⟩
      rintro x57 ⟨V57, rfl, hb57⟩
      rintro x58 ⟨V58, rfl, hb58⟩
      rintro x59 ⟨V59, rfl, hb59⟩
      rintro x60 ⟨V60, rfl, hb60⟩
      rintro x61 ⟨V61, rfl, hb61⟩
      rintro x62 ⟨V62, rfl, hb62⟩
      rintro x63 ⟨V63, rfl, hb63⟩
      rintro x64 ⟨V64, rfl, hb64⟩
      rintro x65 ⟨V65, rfl, hb65⟩
      rintro x66 ⟨V66, rfl, hb66⟩
      rintro x67 ⟨V67, rfl, hb67⟩
      intro K hK
      obtain ⟨_, cb, cf⟩ := KG.out V hV
      go_simp
      refine hK _ _ ?_
      clear hK K cb cf
      have KM5 := Lib.hid ((KM4.out.next hV).far (w1 := V.setCell ⟨g, b.toNat, none⟩ (.string (writeS s M t))) ((Below.refl _ _).setCell (p := ⟨g, b.toNat, none⟩) Kgb.out _))
      have hbn : b.toNat < I.banks.length * 1 := by omega
      have o1 := own_next KO1.out hV
      have o2 := own_next KO2.out hV
      have o3 := own_next KO3.out hV
      have KO1' := Lib.hid (own_store (u := .string (writeS s M t)) o1 b.toNat hbn)
      have KO2' := Lib.hid (own_off (u := .string (writeS s M t)) (j := b.toNat) o2 o1 (by decide) rfl)
      have KO3' := Lib.hid (own_off (u := .string (writeS s M t)) (j := b.toNat) o3 o1 (by decide) rfl)
      clear o1 o2 o3 KM4 KO1 KO2 KO3 KG hV hb52 V52 hb53 V53 hb54 V54 hb55 V55 hb56 V56 hb57 V57 hb58 V58 hb59 V59 hb60 V60 hb61 V61 hb62 V62 hb63 V63 hb64 V64 hb65 V65 hb66 V66 hb67 V67
      rw [show (s.extract 0 M ++ t ++ s.extract (M + t.size) s.size) = writeS s M t from rfl]
      generalize V.setCell ⟨g, b.toNat, none⟩ (.string (writeS s M t)) = W5 at *
      have n0 := KM5.out.n 0 _ rfl
      have n1 := KM5.out.n 1 _ rfl
      have n2 := KM5.out.n 2 _ rfl
      have n3 := KM5.out.n 3 _ rfl
      have n4 := KM5.out.n 4 _ rfl
      obtain ⟨u0, t0⟩ := KM5.out.t 0 (by decide)
      have g0 := KM5.out.ft 0
      obtain ⟨u1, t1⟩ := KM5.out.t 1 (by decide)
      have g1 := KM5.out.ft 1
      obtain ⟨u2, t2⟩ := KM5.out.t 2 (by decide)
      have g2 := KM5.out.ft 2
      obtain ⟨u3, t3⟩ := KM5.out.t 3 (by decide)
      have g3 := KM5.out.ft 3
      obtain ⟨u4, t4⟩ := KM5.out.t 4 (by decide)
      have g4 := KM5.out.ft 4
      have hlt : w.heap.size + 2 < w.heap.size + 3 := by omega
      have HS := Lib.hid (set5 W5 (w.heap.size + 2) (.slice (some ⟨g, 0, none⟩) I.banks.length e1) (.int .u16 I.entry) (.int .u16 I.vector) (.slice q2 I.data.length e2) (.slice q3 I.relocs.length e3) _ _ _ _ _ t0 t1 t2 t3 t4)
      have KBF : Hid (Below w.heap.size w (setAll (w.heap.size + 2) [.slice (some ⟨g, 0, none⟩) I.banks.length e1, .int .u16 I.entry, .int .u16 I.vector, .slice q2 I.data.length e2, .slice q3 I.relocs.length e3] 0 W5)) := Lib.hid (setAll_below (by omega) _ 0 _ KM5.out.below)
      have KQ1 := Lib.hid (setAll_own hlt [.slice (some ⟨g, 0, none⟩) I.banks.length e1, .int .u16 I.entry, .int .u16 I.vector, .slice q2 I.data.length e2, .slice q3 I.relocs.length e3] 0 _ KO1'.out)
      have KQ2 := Lib.hid (setAll_own hlt [.slice (some ⟨g, 0, none⟩) I.banks.length e1, .int .u16 I.entry, .int .u16 I.vector, .slice q2 I.data.length e2, .slice q3 I.relocs.length e3] 0 _ KO2'.out)
      have KQ3 := Lib.hid (setAll_own hlt [.slice (some ⟨g, 0, none⟩) I.banks.length e1, .int .u16 I.entry, .int .u16 I.vector, .slice q2 I.data.length e2, .slice q3 I.relocs.length e3] 0 _ KO3'.out)
      simp only [setAll] at KBF KQ1 KQ2 KQ3
      clear hlt KO1' KO2' KO3' KM5
      go_wp2_with fail
      obtain ⟨x0, x1, x2, x3, x4⟩ := HS.out
      clear n0 n1 n2 n3 n4 t0 t1 t2 t3 t4 g0 g1 g2 g3 g4 HS
      generalize (((((W5.setCell ⟨w.heap.size + 2, 0, none⟩ (.slice (some ⟨g, 0, none⟩) I.banks.length e1)).setCell ⟨w.heap.size + 2, 1, none⟩ (.int .u16 I.entry)).setCell ⟨w.heap.size + 2, 2, none⟩ (.int .u16 I.vector)).setCell ⟨w.heap.size + 2, 3, none⟩ (.slice q2 I.data.length e2)).setCell ⟨w.heap.size + 2, 4, none⟩ (.slice q3 I.relocs.length e3)) = WF at *
      have hOw : OwnedImg { I with banks := I.banks.set b.toNat (writeS s M t) } (.agg #[.slice (some ⟨g, 0, none⟩) I.banks.length e1, .int .u16 I.entry, .int .u16 I.vector, .slice q2 I.data.length e2, .slice q3 I.relocs.length e3]) WF := owned_all KI.out _ (by simp) (fun x hx => mem_set (P := fun x : ByteArray => x.size ≤ maxLen) hx (fun y hy => by have := KB.out y hy; unfold maxLen; omega) (by rw [writeS_size s M t (by omega)]; unfold maxLen; omega)) (by rw [List.length_set, List.map_set]; exact KQ1.out) KQ2.out KQ3.out
      exact bodyPost_ret (v := .tuple #[.agg #[.slice (some ⟨g, 0, none⟩) I.banks.length e1, .int .u16 I.entry, .int .u16 I.vector, .slice q2 I.data.length e2, .slice q3 I.relocs.length e3], .int .i64 0]) (by simp [results, Try.results40, go_sem, x0, x1, x2, x3, x4]) rfl (HR.out _ _ ⟨_, by rw [HV.out], by rw [HV.out]; exact hOw, KBF.out⟩)
  · have HV := Lib.hid (writeI_long I b a t (by rw [hbk, hM]; exact hfit))
    have hfb : decide ((s.size : Int) - M < (t.size : Int)) = true := decide_eq_true (by omega)
    clear hs hbk hM hok hfit
    obtain ⟨B1, hp1, hB1, hc1⟩ := KC.out
    subst hp1
    go_enter Try.func40, Try.ntmps40
    go_wp2_with fail
    generalize hW0 : (((w.alloc (Obj.cells #[.slice (some ⟨B1, 0, none⟩) I.banks.length p4, .int .u16 I.entry, .int .u16 I.vector, .slice p2 I.data.length p5, .slice p3 I.relocs.length p6] 30)).alloc (Obj.cells #[Value.int IntKind.i64 b, Value.int IntKind.u16 a] 55)).alloc (Obj.cells #[Value.slice none 0 0, Value.int IntKind.u16 0, Value.int IntKind.u16 0, Value.slice none 0 0, Value.slice none 0 0] 30)) = W0 at *
    have K0 : Hid (Below w.heap.size w W0) := Lib.hid (KZ.out W0 (Below.refl _ _)).below
    clear hW0
    refine (HO.out _ (KI.out.kept K0.out)).mono ?_
    rintro e w2 ⟨rfl, h2⟩
    have K2 := Lib.hid h2
    clear h2
    have cb := (K2.out.cell (p := ⟨B1, b.toNat, none⟩) (Nat.lt_of_lt_of_le hB1 K0.out.size)).trans ((K0.out.cell (p := ⟨B1, b.toNat, none⟩) hB1).trans hc1)
    clear hc1
    have hm := KZ.out _ K2.out
    have z0 := KP.out _ K2.out 0 _ rfl
    have g0 := hm.ft 0
    have z1 := KP.out _ K2.out 1 _ rfl
    have g1 := hm.ft 1
    have z2 := KP.out _ K2.out 2 _ rfl
    have g2 := hm.ft 2
    have z3 := KP.out _ K2.out 3 _ rfl
    have g3 := hm.ft 3
    have z4 := KP.out _ K2.out 4 _ rfl
    have g4 := hm.ft 4
    have i0 := hm.n 0 _ rfl
    have KM := Lib.hid hm
    clear hm
    have HS := Lib.hid (set5 w2 (w.heap.size + 2) (.slice none 0 0) (.int .u16 0) (.int .u16 0) (.slice none 0 0) (.slice none 0 0) _ _ _ _ _ z0 z1 z2 z3 z4)
    have KF : Hid (Below w.heap.size w (setAll (w.heap.size + 2) [.slice none 0 0, .int .u16 0, .int .u16 0, .slice none 0 0, .slice none 0 0] 0 w2)) := Lib.hid (setAll_below (by omega) _ 0 _ KM.out.below)
    simp only [setAll] at KF
    go_wp2_with fail
    obtain ⟨x0, x1, x2, x3, x4⟩ := HS.out
    clear z0 z1 z2 z3 z4 g0 g1 g2 g3 g4 HS i0
    generalize (((((w2.setCell ⟨w.heap.size + 2, 0, none⟩ (Value.slice none 0 0)).setCell ⟨w.heap.size + 2, 1, none⟩ (Value.int IntKind.u16 0)).setCell ⟨w.heap.size + 2, 2, none⟩ (Value.int IntKind.u16 0)).setCell ⟨w.heap.size + 2, 3, none⟩ (Value.slice none 0 0)).setCell ⟨w.heap.size + 2, 4, none⟩ (Value.slice none 0 0)) = WF at *
    exact bodyPost_ret (v := .tuple #[.agg #[.slice none 0 0, .int .u16 0, .int .u16 0, .slice none 0 0, .slice none 0 0], .int .i64 37]) (by simp [results, Try.results40, go_sem, x0, x1, x2, x3, x4]) rfl (HR.out _ _ ⟨_, by rw [HV.out], by rw [HV.out]; exact ⟨none, 0, none, 0, none, 0, rfl, empty_at _ _ _ _⟩, KF.out⟩)
end Go.Proofs.Ytgdiaaoekkdibaa
