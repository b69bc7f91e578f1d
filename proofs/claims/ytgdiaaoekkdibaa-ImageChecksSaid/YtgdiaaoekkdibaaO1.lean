/- The contract of the reference's Own. -/
import Derived.Test.YtgdiaaoekkdibaaO0
namespace Go.Proofs.Ytgdiaaoekkdibaa
set_option linter.unusedVariables false
set_option linter.unusedSimpArgs false
open Go.RowKit
/-- Two blocks of a call's own, five cells each: the first one's values, the second one's cells. -/
structure OwnMem (w w' : World) (vs : List Value) : Prop where
  n : ∀ k u, vs[k]? = some u → w'.cell? ⟨w.heap.size, k, none⟩ = some u
  fn : ∀ k, w'.frozen? ⟨w.heap.size, k, none⟩ = false
  t : ∀ k, k < 5 → ∃ v, w'.cell? ⟨w.heap.size + 1, k, none⟩ = some v
  ft : ∀ k, w'.frozen? ⟨w.heap.size + 1, k, none⟩ = false
  size : w.heap.size + 2 ≤ w'.heap.size
  below : Below w.heap.size w w'
theorem OwnMem.far {w w' w1 : World} {vs : List Value} (h : OwnMem w w' vs) (hb : Below (w.heap.size + 2) w' w1) : OwnMem w w1 vs := by
  have h0 : w.heap.size < w.heap.size + 2 := by omega
  have h1 : w.heap.size + 1 < w.heap.size + 2 := by omega
  refine ⟨fun k u hk => (hb.cell h0).trans (h.n k u hk), fun k => (hb.frozen h0).trans (h.fn k), fun k hk => ?_, fun k => (hb.frozen h1).trans (h.ft k), ?_, h.below.trans (hb.mono (by omega))⟩
  · obtain ⟨v, hv⟩ := h.t k hk
    exact ⟨v, (hb.cell h1).trans hv⟩
  · have := h.size; have := hb.size; omega
theorem OwnMem.next {w w' w1 : World} {vs : List Value} (h : OwnMem w w' vs) (hb : Below w'.heap.size w' w1) : OwnMem w w1 vs := h.far (hb.mono h.size)
theorem OwnMem.set {w w' : World} {vs : List Value} (h : OwnMem w w' vs) (k : Nat) (u : Value) : OwnMem w (w'.setCell ⟨w.heap.size, k, none⟩ u) (vs.set k u) := by
  have hne : ∀ i, (⟨w.heap.size, k, none⟩ : Addr) ≠ ⟨w.heap.size + 1, i, none⟩ := fun i e => by injection e with e1; omega
  refine ⟨fun j x hj => ?_, fun j => (frozen_set' _ _ _ _).trans (h.fn j), fun j hj => ?_, fun j => (frozen_set' _ _ _ _).trans (h.ft j), by simp; exact h.size, h.below.setCell (Nat.le_refl _) _⟩
  · by_cases e : k = j
    · subst e
      have hlt : k < vs.length := by have := (List.getElem?_eq_some_iff.1 hj).1; simpa using this
      obtain ⟨y, hy⟩ := at_some vs k hlt
      rw [List.getElem?_set_self hlt] at hj
      cases hj
      exact World.cell?_setCell_same _ _ _ (h.n k y hy)
    · rw [List.getElem?_set_ne e] at hj
      exact (World.cell?_setCell_other _ _ _ _ (addr_ne _ k j e)).trans (h.n j x hj)
  · obtain ⟨v, hv⟩ := h.t j hj
    exact ⟨v, (World.cell?_setCell_other _ _ _ _ (hne j)).trans hv⟩
theorem ownMem_start (w : World) (v0 v1 v2 v3 v4 : Value) : OwnMem w ((w.alloc (Obj.cells #[v0, v1, v2, v3, v4] 30)).alloc (Obj.cells #[Value.slice none 0 0, Value.int IntKind.u16 0, Value.int IntKind.u16 0, Value.slice none 0 0, Value.slice none 0 0] 30)) [v0, v1, v2, v3, v4] := by
  refine ⟨fun k u hk => ?_, fun k => by simp [go_sem], fun k hk => ?_, fun k => by simp [go_sem], by simp, below_alloc (below1 _ _) _⟩
  · have e : ((w.alloc (Obj.cells #[v0, v1, v2, v3, v4] 30)).alloc (Obj.cells #[Value.slice none 0 0, Value.int IntKind.u16 0, Value.int IntKind.u16 0, Value.slice none 0 0, Value.slice none 0 0] 30)).cell? ⟨w.heap.size, k, none⟩ = (w.alloc (Obj.cells #[v0, v1, v2, v3, v4] 30)).cell? ⟨w.heap.size, k, none⟩ := World.cell?_alloc_lt _ _ _ (by simp)
    rw [e, Lib.cell_of_heap (alloc_at w _), ← hk]
    simp
  · have hs : (w.alloc (Obj.cells #[v0, v1, v2, v3, v4] 30)).heap.size = w.heap.size + 1 := by simp
    have e := Lib.cell_of_heap (alloc_at (w.alloc (Obj.cells #[v0, v1, v2, v3, v4] 30)) (Obj.cells #[Value.slice none 0 0, Value.int IntKind.u16 0, Value.int IntKind.u16 0, Value.slice none 0 0, Value.slice none 0 0] 30)) k
    rw [hs] at e
    rw [e]
    rcases (show k = 0 ∨ k = 1 ∨ k = 2 ∨ k = 3 ∨ k = 4 by omega) with rfl | rfl | rfl | rfl | rfl <;> exact ⟨_, rfl⟩
/-- A copy's rows, in blocks from B on. -/
structure Owned (B : Nat) (w : World) (I : Img) (v1 v2 v3 : Value) : Prop where
  o1 : w.ownsRow B 9 1 v1 I.banks.length (I.banks.map Value.string)
  o2 : w.ownsRow B 39 3 v2 I.data.length (I.data.flatMap ObjI.cells)
  o3 : w.ownsRow B 41 2 v3 I.relocs.length (I.relocs.flatMap RelI.cells)
def OwnPost (I : Img) (w : World) (e : Ending) (w' : World) : Prop :=
  ∃ v1 v2 v3 : Value, e = .returned (.agg #[v1, .int .u16 I.entry, .int .u16 I.vector, v2, v3]) ∧ Owned (w.heap.size + 2) w' I v1 v2 v3 ∧ Below w.heap.size w w'
set_option maxRecDepth 8000 in
set_option maxHeartbeats 4000000 in
theorem own_any (p1 : Option Addr) (c1 : Nat) (p2 : Option Addr) (c2 : Nat) (p3 : Option Addr) (c3 : Nat) (I : Img) (w : World) (hI : ImgAt w p1 p2 p3 I) (b1 : I.banks.length ≤ 1000000) (b2 : I.data.length ≤ 1000000) (b3 : I.relocs.length ≤ 1000000) (Rr : Ending → World → Prop) (HR : Hid (∀ e w', OwnPost I w e w' → Rr e w')) :
    Calls Try.prog 38 #[imgV p1 c1 p2 c2 p3 c3 I] w Rr := by
  obtain ⟨i9, hi9, hz9, hs9, hb9⟩ := info_parts infoStr
  obtain ⟨i39, hi39, hz39, hs39, hb39⟩ := info_parts infoObj
  obtain ⟨i41, hi41, hz41, hs41, hb41⟩ := info_parts infoRel
  have hW0 := below_alloc (below1 w (Obj.cells #[.slice p1 I.banks.length c1, .int .u16 I.entry, .int .u16 I.vector, .slice p2 I.data.length c2, .slice p3 I.relocs.length c3] 30)) (Obj.cells #[Value.slice none 0 0, Value.int IntKind.u16 0, Value.int IntKind.u16 0, Value.slice none 0 0, Value.slice none 0 0] 30)
  have S1 := Lib.hid (strs_src hI.banks)
  have S2 := Lib.hid (objs_src hI.data)
  have S3 := Lib.hid (rels_src hI.relocs)
  have M0 := ownMem_start w (.slice p1 I.banks.length c1) (.int .u16 I.entry) (.int .u16 I.vector) (.slice p2 I.data.length c2) (.slice p3 I.relocs.length c3)
  have HM0 := Lib.hid M0
  clear hI hW0 M0
  show Calls Try.prog 38 #[.agg #[.slice p1 I.banks.length c1, .int .u16 I.entry, .int .u16 I.vector, .slice p2 I.data.length c2, .slice p3 I.relocs.length c3]] w _
  go_enter Try.func38, Try.ntmps38
  have HE := Lib.hid (row_empty ((w.alloc (Obj.cells #[.slice p1 I.banks.length c1, .int .u16 I.entry, .int .u16 I.vector, .slice p2 I.data.length c2, .slice p3 I.relocs.length c3] 30)).alloc (Obj.cells #[Value.slice none 0 0, Value.int IntKind.u16 0, Value.int IntKind.u16 0, Value.slice none 0 0, Value.slice none 0 0] 30)) 9 (w.heap.size + 2) 1 HM0.out.size)
  have hsz : ((w.alloc (Obj.cells #[.slice p1 I.banks.length c1, .int .u16 I.entry, .int .u16 I.vector, .slice p2 I.data.length c2, .slice p3 I.relocs.length c3] 30)).alloc (Obj.cells #[Value.slice none 0 0, Value.int IntKind.u16 0, Value.int IntKind.u16 0, Value.slice none 0 0, Value.slice none 0 0] 30)).heap.size = w.heap.size + 1 + 1 := by simp
  rw [hsz] at HE
  clear hsz
  have HM1 := Lib.hid (HM0.out.next (below1 _ (Obj.cells #[] 9)))
  go_wp2_with (at_builtin; refine append_src _ rfl (.tmp 3) (.tmp 5) 25 rfl (w.heap.size + 2) 9 i9 (.string ByteArray.empty) 1 16 Try.underlying25 hi9 hz9 hs9 hb9 rfl (by decide) _ rfl HE.out p1 I.banks.length c1 (I.banks.map Value.string) rfl (by simp) (S1.out.kept HM1.out.below) (by intro u hu; obtain ⟨s, _, rfl⟩ := List.mem_map.1 hu; rfl) (by unfold maxLen; omega) (by omega) HM1.out.size ?_)
  intro v1 w1 hown1 hg1
  obtain ⟨q1, e1, rfl, _⟩ := own_slice hown1
  have hA := HM1.out.far ((Below.refl (w.heap.size + 2) _).grown hg1 HM1.out.size (fun k e => by simp [Value.ownBlock] at e; omega))
  have KA := Lib.hid hA
  have KO1 := Lib.hid hown1
  have n0 := hA.n 0 _ rfl
  have n1 := hA.n 1 _ rfl
  have n2 := hA.n 2 _ rfl
  have n3 := hA.n 3 _ rfl
  have n4 := hA.n 4 _ rfl
  have f0 := hA.fn 0
  have KB := Lib.hid (hA.set 0 (.slice q1 I.banks.length e1))
  have KC := Lib.hid (KB.out.next (below1 _ (Obj.cells #[] 39)))
  have HE2 := Lib.hid (row_empty (w1.setCell ⟨w.heap.size, 0, none⟩ (.slice q1 I.banks.length e1)) 39 (w.heap.size + 2) 3 KB.out.size)
  have hsz : (w1.setCell ⟨w.heap.size, 0, none⟩ (.slice q1 I.banks.length e1)).heap.size = w1.heap.size := by simp
  rw [hsz] at HE2
  have hlw : w.heap.size + 2 ≤ w1.heap.size := hA.size
  have KO1b := Lib.hid (own_next (own_set (j := 0) (u := .slice q1 I.banks.length e1) KO1.out (by omega : w.heap.size < w.heap.size + 2)) (below1 _ (Obj.cells #[] 39)))
  have m3 := KC.out.n 3 _ rfl
  clear hsz hown1 hg1 hA HM0 HM1 HE KO1 KA
  go_wp2_with (at_builtin; refine append_src _ rfl (.tmp 8) (.tmp 10) 27 rfl (w.heap.size + 2) 39 i39 (.agg #[.int .i64 0, .int .u16 0, .int .u16 0]) 3 16 Try.underlying27 hi39 hz39 hs39 hb39 rfl (by decide) _ rfl HE2.out p2 I.data.length c2 (I.data.flatMap ObjI.cells) rfl (by rw [flat_clen ObjI.cells 3 _ (fun _ => rfl)]; omega) (S2.out.kept KC.out.below) (flat_one ObjI.cells I.data (fun o => one_obj o)) (by unfold maxLen; omega) (by omega) KC.out.size ?_)
  intro v2 w2 hown2 hg2
  obtain ⟨q2, e2, rfl, _⟩ := own_slice hown2
  have hA := KC.out.far ((Below.refl (w.heap.size + 2) _).grown hg2 KC.out.size (fun k e => by simp [Value.ownBlock] at e; omega))
  have KO1c := Lib.hid (KO1b.out.kept hg2 (own_apart KO1b.out HE2.out (by decide)))
  have KO2 := Lib.hid hown2
  clear n0 n1 n2 n3 n4 f0
  have n0 := hA.n 0 _ rfl
  have n1 := hA.n 1 _ rfl
  have n2 := hA.n 2 _ rfl
  have n3 := hA.n 3 _ rfl
  have n4 := hA.n 4 _ rfl
  have f3 := hA.fn 3
  have KB := Lib.hid (hA.set 3 (.slice q2 I.data.length e2))
  have KD := Lib.hid (KB.out.next (below1 _ (Obj.cells #[] 41)))
  have HE3 := Lib.hid (row_empty (w2.setCell ⟨w.heap.size, 3, none⟩ (.slice q2 I.data.length e2)) 41 (w.heap.size + 2) 2 KB.out.size)
  have hsz : (w2.setCell ⟨w.heap.size, 3, none⟩ (.slice q2 I.data.length e2)).heap.size = w2.heap.size := by simp
  rw [hsz] at HE3
  have hlw2 : w.heap.size + 2 ≤ w2.heap.size := hA.size
  have KO1d := Lib.hid (own_next (own_set (j := 3) (u := .slice q2 I.data.length e2) KO1c.out (by omega : w.heap.size < w.heap.size + 2)) (below1 _ (Obj.cells #[] 41)))
  have KO2d := Lib.hid (own_next (own_set (j := 3) (u := .slice q2 I.data.length e2) KO2.out (by omega : w.heap.size < w.heap.size + 2)) (below1 _ (Obj.cells #[] 41)))
  have m4 := KD.out.n 4 _ rfl
  clear hsz hown2 hg2 hA HE2 KC KO1b KO1c KO2 m3
  go_wp2_with (at_builtin; refine append_src _ rfl (.tmp 13) (.tmp 15) 28 rfl (w.heap.size + 2) 41 i41 (.agg #[.int .i64 0, .int .u16 0]) 2 16 Try.underlying28 hi41 hz41 hs41 hb41 rfl (by decide) _ rfl HE3.out p3 I.relocs.length c3 (I.relocs.flatMap RelI.cells) rfl (by rw [flat_clen RelI.cells 2 _ (fun _ => rfl)]; omega) (S3.out.kept KD.out.below) (flat_one RelI.cells I.relocs (fun o => one_rel o)) (by unfold maxLen; omega) (by omega) KD.out.size ?_)
  intro v3 w3 hown3 hg3
  obtain ⟨q3, e3, rfl, _⟩ := own_slice hown3
  have hA := KD.out.far ((Below.refl (w.heap.size + 2) _).grown hg3 KD.out.size (fun k e => by simp [Value.ownBlock] at e; omega))
  have KO1e := Lib.hid (own_set (j := 4) (u := .slice q3 I.relocs.length e3) (KO1d.out.kept hg3 (own_apart KO1d.out HE3.out (by decide))) (by omega : w.heap.size < w.heap.size + 2))
  have KO2e := Lib.hid (own_set (j := 4) (u := .slice q3 I.relocs.length e3) (KO2d.out.kept hg3 (own_apart KO2d.out HE3.out (by decide))) (by omega : w.heap.size < w.heap.size + 2))
  have KO3e := Lib.hid (own_set (j := 4) (u := .slice q3 I.relocs.length e3) hown3 (by omega : w.heap.size < w.heap.size + 2))
  clear n0 n1 n2 n3 n4 f3 hown3 hg3 HE3 KD KO1d KO2d
  have n0 := hA.n 0 _ rfl
  have n1 := hA.n 1 _ rfl
  have n2 := hA.n 2 _ rfl
  have n3 := hA.n 3 _ rfl
  have n4 := hA.n 4 _ rfl
  have f4 := hA.fn 4
  have KB := Lib.hid (hA.set 4 (.slice q3 I.relocs.length e3))
  obtain ⟨u0, t0⟩ := KB.out.t 0 (by decide)
  obtain ⟨u1, t1⟩ := KB.out.t 1 (by decide)
  obtain ⟨u2, t2⟩ := KB.out.t 2 (by decide)
  obtain ⟨u3, t3⟩ := KB.out.t 3 (by decide)
  obtain ⟨u4, t4⟩ := KB.out.t 4 (by decide)
  have g0 := KB.out.ft 0
  have g1 := KB.out.ft 1
  have g2 := KB.out.ft 2
  have g3 := KB.out.ft 3
  have g4 := KB.out.ft 4
  have r0 := KB.out.n 0 _ rfl
  have r1 := KB.out.n 1 _ rfl
  have r2 := KB.out.n 2 _ rfl
  have r3 := KB.out.n 3 _ rfl
  have r4 := KB.out.n 4 _ rfl
  have s0 := hA.t 0 (by decide)
  clear hA s0
  have hlt : w.heap.size + 1 < w.heap.size + 2 := by omega
  have HS := Lib.hid (set5 (w3.setCell ⟨w.heap.size, 4, none⟩ (.slice q3 I.relocs.length e3)) (w.heap.size + 1) (.slice q1 I.banks.length e1) (.int .u16 I.entry) (.int .u16 I.vector) (.slice q2 I.data.length e2) (.slice q3 I.relocs.length e3) _ _ _ _ _ t0 t1 t2 t3 t4)
  have KF1 := Lib.hid (own_set (j := 4) (u := .slice q3 I.relocs.length e3) (own_set (j := 3) (u := .slice q2 I.data.length e2) (own_set (j := 2) (u := .int .u16 I.vector) (own_set (j := 1) (u := .int .u16 I.entry) (own_set (j := 0) (u := .slice q1 I.banks.length e1) KO1e.out hlt) hlt) hlt) hlt) hlt)
  have KF2 := Lib.hid (own_set (j := 4) (u := .slice q3 I.relocs.length e3) (own_set (j := 3) (u := .slice q2 I.data.length e2) (own_set (j := 2) (u := .int .u16 I.vector) (own_set (j := 1) (u := .int .u16 I.entry) (own_set (j := 0) (u := .slice q1 I.banks.length e1) KO2e.out hlt) hlt) hlt) hlt) hlt)
  have KF3 := Lib.hid (own_set (j := 4) (u := .slice q3 I.relocs.length e3) (own_set (j := 3) (u := .slice q2 I.data.length e2) (own_set (j := 2) (u := .int .u16 I.vector) (own_set (j := 1) (u := .int .u16 I.entry) (own_set (j := 0) (u := .slice q1 I.banks.length e1) KO3e.out hlt) hlt) hlt) hlt) hlt)
  have hN1 : w.heap.size ≤ w.heap.size + 1 := by omega
  have KBF := Lib.hid (((((KB.out.below.setCell (p := ⟨w.heap.size + 1, 0, none⟩) hN1 (.slice q1 I.banks.length e1)).setCell (p := ⟨w.heap.size + 1, 1, none⟩) hN1 (.int .u16 I.entry)).setCell (p := ⟨w.heap.size + 1, 2, none⟩) hN1 (.int .u16 I.vector)).setCell (p := ⟨w.heap.size + 1, 3, none⟩) hN1 (.slice q2 I.data.length e2)).setCell (p := ⟨w.heap.size + 1, 4, none⟩) hN1 (.slice q3 I.relocs.length e3))
  clear hlt KO1e KO2e KO3e KB hN1
  go_wp2_with fail
  obtain ⟨x0, x1, x2, x3, x4⟩ := HS.out
  clear n0 n1 n2 n3 n4 f4 t0 t1 t2 t3 t4 g0 g1 g2 g3 g4 r0 r1 r2 r3 r4 m4 HS S1 S2 S3
  generalize (((((w3.setCell ⟨w.heap.size, 4, none⟩ (.slice q3 I.relocs.length e3)).setCell ⟨w.heap.size + 1, 0, none⟩ (Value.slice q1 I.banks.length e1)).setCell ⟨w.heap.size + 1, 1, none⟩ (Value.int IntKind.u16 I.entry)).setCell ⟨w.heap.size + 1, 2, none⟩ (Value.int IntKind.u16 I.vector)).setCell ⟨w.heap.size + 1, 3, none⟩ (Value.slice q2 I.data.length e2)).setCell ⟨w.heap.size + 1, 4, none⟩ (Value.slice q3 I.relocs.length e3) = WF at *
  exact bodyPost_ret (v := .agg #[.slice q1 I.banks.length e1, .int .u16 I.entry, .int .u16 I.vector, .slice q2 I.data.length e2, .slice q3 I.relocs.length e3]) (by simp [results, Try.results38, go_sem, x0, x1, x2, x3, x4]) rfl (HR.out _ _ ⟨_, _, _, rfl, ⟨KF1.out, KF2.out, KF3.out⟩, KBF.out⟩)
theorem Owned.img {B : Nat} {w : World} {I : Img} {v1 v2 v3 : Value} (h : Owned B w I v1 v2 v3) (hs : ∀ s ∈ I.banks, s.size ≤ maxLen) (ho : ∀ o ∈ I.data, o.ok) (hr : ∀ r ∈ I.relocs, r.ok) (he : OkU16 I.entry) (hv : OkU16 I.vector)
    (l1 : I.banks.length ≤ maxLen) (l2 : I.data.length ≤ maxLen) (l3 : I.relocs.length ≤ maxLen) :
    ∃ (p1 : Option Addr) (c1 : Nat) (p2 : Option Addr) (c2 : Nat) (p3 : Option Addr) (c3 : Nat), v1 = .slice p1 I.banks.length c1 ∧ v2 = .slice p2 I.data.length c2 ∧ v3 = .slice p3 I.relocs.length c3 ∧ ImgAt w p1 p2 p3 I := by
  obtain ⟨p1, c1, e1, k1⟩ := own_slice h.o1
  obtain ⟨p2, c2, e2, k2⟩ := own_slice h.o2
  obtain ⟨p3, c3, e3, k3⟩ := own_slice h.o3
  refine ⟨p1, c1, p2, c2, p3, c3, e1, e2, e3, ?_, ?_, ?_, he, hv, l1, l2, l3⟩
  · intro k s hk
    rcases k1 with k1 | ⟨g, rfl, hg, _, hc⟩
    · rw [List.eq_nil_of_length_eq_zero k1] at hk; simp at hk
    · exact ⟨g, rfl, hg, hc k _ (by rw [List.getElem?_map, hk]; rfl), hs s (List.mem_of_getElem? hk)⟩
  · intro k o hk
    rcases k2 with k2 | ⟨g, rfl, hg, _, hc⟩
    · rw [List.eq_nil_of_length_eq_zero k2] at hk; simp at hk
    · exact ⟨g, rfl, hg, hc (k * 3) _ (flat_get ObjI.cells 3 I.data (fun _ => rfl) k 0 o hk (by decide)), hc (k * 3 + 1) _ (flat_get ObjI.cells 3 I.data (fun _ => rfl) k 1 o hk (by decide)), hc (k * 3 + 2) _ (flat_get ObjI.cells 3 I.data (fun _ => rfl) k 2 o hk (by decide)), ho o (List.mem_of_getElem? hk)⟩
  · intro k o hk
    rcases k3 with k3 | ⟨g, rfl, hg, _, hc⟩
    · rw [List.eq_nil_of_length_eq_zero k3] at hk; simp at hk
    · exact ⟨g, rfl, hg, hc (k * 2) _ (flat_get RelI.cells 2 I.relocs (fun _ => rfl) k 0 o hk (by decide)), hc (k * 2 + 1) _ (flat_get RelI.cells 2 I.relocs (fun _ => rfl) k 1 o hk (by decide)), hr o (List.mem_of_getElem? hk)⟩
/-- What an image in memory is made of. -/
theorem img_parts {w : World} {p1 p2 p3 : Option Addr} {I : Img} (h : ImgAt w p1 p2 p3 I) : (∀ s ∈ I.banks, s.size ≤ maxLen) ∧ (∀ o ∈ I.data, o.ok) ∧ (∀ r ∈ I.relocs, r.ok) := by
  refine ⟨fun s hs => ?_, fun o ho => ?_, fun r hr => ?_⟩
  · obtain ⟨k, hk⟩ := List.getElem?_of_mem hs
    obtain ⟨_, _, _, _, hz⟩ := h.banks k s hk
    exact hz
  · obtain ⟨k, hk⟩ := List.getElem?_of_mem ho
    obtain ⟨_, _, _, _, _, _, ok⟩ := h.data k o hk
    exact ok
  · obtain ⟨k, hk⟩ := List.getElem?_of_mem hr
    obtain ⟨_, _, _, _, _, ok⟩ := h.relocs k r hk
    exact ok
end Go.Proofs.Ytgdiaaoekkdibaa
