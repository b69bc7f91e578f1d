/- The contract of image.Read on files that end before their lists are read. -/
import Derived.Test.YtgdiaaoekkdibaaI17
namespace Go.Proofs.Ytgdiaaoekkdibaa
set_option linter.unusedVariables false
set_option linter.unusedSimpArgs false
open Go.RowKit
theorem readE_head (s : ByteArray) (h : (headE s).2 ≠ 0) : readE s = headE s := if_pos h
theorem readE_short (s : ByteArray) (h : (headE s).2 = 0) (h1 : s.size < stopA s + 2) : readE s = ((s.size : Int), 10) := by
  unfold readE; rw [if_neg (by simp [h]), if_pos h1]
theorem readE_long (s : ByteArray) (h : (headE s).2 = 0) (h1 : stopA s + 2 < s.size) : readE s = (((stopA s + 2 : Nat) : Int), 20) := by
  unfold readE; rw [if_neg (by simp [h]), if_neg (by omega), if_pos h1]; rfl
def ReadPost (s : ByteArray) (w : World) (e : Ending) (w' : World) : Prop :=
  ∃ (p1 : Option Addr) (c1 : Nat) (p2 : Option Addr) (c2 : Nat) (p3 : Option Addr) (c3 : Nat), e = .returned (.tuple #[imgV p1 c1 p2 c2 p3 c3 (readI s), .int .i64 (readE s).1, .int .i64 (readE s).2]) ∧ ImgAt w' p1 p2 p3 (readI s) ∧ Below w.heap.size w w'
theorem imgAt_empty (w : World) : ImgAt w none none none emptyI :=
  ⟨fun k o h => by simp [emptyI] at h, fun k o h => by simp [emptyI] at h, fun k o h => by simp [emptyI] at h, ⟨by decide, by decide⟩, ⟨by decide, by decide⟩, by decide, by decide, by decide⟩
theorem readPost_bad {s : ByteArray} {w w' : World} {a b : Int} (h : readE s = (a, b)) (hb : b ≠ 0) (hB : Below w.heap.size w w') : ReadPost s w (.returned (.tuple #[.agg #[.slice none 0 0, .int .u16 0, .int .u16 0, .slice none 0 0, .slice none 0 0], .int .i64 a, .int .i64 b])) w' := by
  have e : readI s = emptyI := by unfold readI; rw [h]; exact if_neg hb
  refine ⟨none, 0, none, 0, none, 0, ?_, ?_, hB⟩
  · rw [e, h]; rfl
  · rw [e]; exact imgAt_empty w'
/-- What Read keeps in memory: the image's five cells, the offset, the error. -/
structure ReadMem (w w' : World) (v0 v1 v2 v3 v4 : Value) : Prop where
  i0 : w'.cell? ⟨w.heap.size, 0, none⟩ = some v0
  i1 : w'.cell? ⟨w.heap.size, 1, none⟩ = some v1
  i2 : w'.cell? ⟨w.heap.size, 2, none⟩ = some v2
  i3 : w'.cell? ⟨w.heap.size, 3, none⟩ = some v3
  i4 : w'.cell? ⟨w.heap.size, 4, none⟩ = some v4
  q : w'.cell? ⟨w.heap.size + 1, 0, none⟩ = some (.int .i64 0)
  r : w'.cell? ⟨w.heap.size + 2, 0, none⟩ = some (.int .i64 0)
  f0 : w'.frozen? ⟨w.heap.size, 0, none⟩ = false
  f1 : w'.frozen? ⟨w.heap.size, 1, none⟩ = false
  f2 : w'.frozen? ⟨w.heap.size, 2, none⟩ = false
  f3 : w'.frozen? ⟨w.heap.size, 3, none⟩ = false
  f4 : w'.frozen? ⟨w.heap.size, 4, none⟩ = false
  fq : w'.frozen? ⟨w.heap.size + 1, 0, none⟩ = false
  fr : w'.frozen? ⟨w.heap.size + 2, 0, none⟩ = false
  size : w.heap.size + 3 ≤ w'.heap.size
  below : Below w.heap.size w w'
theorem ReadMem.next {w w' w2 : World} {v0 v1 v2 v3 v4 : Value} (h : ReadMem w w' v0 v1 v2 v3 v4) (hb : Below w'.heap.size w' w2) : ReadMem w w2 v0 v1 v2 v3 v4 := by
  have hz := h.size
  have hs := hb.size
  have g0 : w.heap.size < w'.heap.size := by omega
  have g1 : w.heap.size + 1 < w'.heap.size := by omega
  have g2 : w.heap.size + 2 < w'.heap.size := by omega
  exact ⟨(hb.cell g0).trans h.i0, (hb.cell g0).trans h.i1, (hb.cell g0).trans h.i2, (hb.cell g0).trans h.i3, (hb.cell g0).trans h.i4, (hb.cell g1).trans h.q, (hb.cell g2).trans h.r,
    (hb.frozen g0).trans h.f0, (hb.frozen g0).trans h.f1, (hb.frozen g0).trans h.f2, (hb.frozen g0).trans h.f3, (hb.frozen g0).trans h.f4, (hb.frozen g1).trans h.fq, (hb.frozen g2).trans h.fr, by omega, below_next h.below hb⟩
def readW (w : World) : World := ((w.alloc (Obj.cells #[Value.slice none 0 0, Value.int IntKind.u16 0, Value.int IntKind.u16 0, Value.slice none 0 0, Value.slice none 0 0] 30)).alloc (Obj.cells #[Value.int IntKind.i64 0] 3)).alloc (Obj.cells #[Value.int IntKind.i64 0] 33)
theorem readMem_start (w : World) : ReadMem w (readW w) (.slice none 0 0) (.int .u16 0) (.int .u16 0) (.slice none 0 0) (.slice none 0 0) := by
  refine ⟨?_, ?_, ?_, ?_, ?_, ?_, ?_, ?_, ?_, ?_, ?_, ?_, ?_, ?_, ?_, below_alloc (below_alloc (below1 _ _) _) _⟩ <;> (unfold readW; simp [go_sem])
/-- The cells behind the closure that caught an error. -/
theorem caught_cells {w w' : World} {v0 v1 v2 v3 v4 : Value} (a b : Int) (h : ReadMem w w' v0 v1 v2 v3 v4) :
    (caughtW w' w.heap.size a b).cell? ⟨w.heap.size, 0, none⟩ = some (.slice none 0 0) ∧ (caughtW w' w.heap.size a b).cell? ⟨w.heap.size, 1, none⟩ = some (.int .u16 0) ∧ (caughtW w' w.heap.size a b).cell? ⟨w.heap.size, 2, none⟩ = some (.int .u16 0) ∧
    (caughtW w' w.heap.size a b).cell? ⟨w.heap.size, 3, none⟩ = some (.slice none 0 0) ∧ (caughtW w' w.heap.size a b).cell? ⟨w.heap.size, 4, none⟩ = some (.slice none 0 0) ∧
    (caughtW w' w.heap.size a b).cell? ⟨w.heap.size + 1, 0, none⟩ = some (.int .i64 a) ∧ (caughtW w' w.heap.size a b).cell? ⟨w.heap.size + 2, 0, none⟩ = some (.int .i64 b) ∧ Below w.heap.size w (caughtW w' w.heap.size a b) := by
  have H := h.next (below1 w' (Obj.cells #[Value.int IntKind.i64 a, Value.int IntKind.i64 b] 98))
  have hb := H.below
  obtain ⟨q0, q1, q2, q3, q4⟩ := set5 _ w.heap.size (.slice none 0 0) (.int .u16 0) (.int .u16 0) (.slice none 0 0) (.slice none 0 0) _ _ _ _ _ H.i0 H.i1 H.i2 H.i3 H.i4
  have ne1 : ∀ i, (⟨w.heap.size + 1, 0, none⟩ : Addr) ≠ ⟨w.heap.size, i, none⟩ := fun i e => by injection e with e1; omega
  have ne2 : ∀ i, (⟨w.heap.size + 2, 0, none⟩ : Addr) ≠ ⟨w.heap.size, i, none⟩ := fun i e => by injection e with e1; omega
  have ne12 : (⟨w.heap.size + 2, 0, none⟩ : Addr) ≠ ⟨w.heap.size + 1, 0, none⟩ := fun e => by injection e with e1; omega
  have kq : ∀ (W : World) (i : Nat) (v : Value), (W.setCell ⟨w.heap.size, i, none⟩ v).cell? ⟨w.heap.size + 1, 0, none⟩ = W.cell? ⟨w.heap.size + 1, 0, none⟩ := fun W i v => World.cell?_setCell_other _ _ _ _ (Ne.symm (ne1 i))
  have kr : ∀ (W : World) (i : Nat) (v : Value), (W.setCell ⟨w.heap.size, i, none⟩ v).cell? ⟨w.heap.size + 2, 0, none⟩ = W.cell? ⟨w.heap.size + 2, 0, none⟩ := fun W i v => World.cell?_setCell_other _ _ _ _ (Ne.symm (ne2 i))
  unfold caughtW
  have Hq := H.q
  have Hr := H.r
  clear H h
  generalize w'.alloc (Obj.cells #[Value.int IntKind.i64 a, Value.int IntKind.i64 b] 98) = W0 at *
  have jq : (((((W0.setCell ⟨w.heap.size, 0, none⟩ (.slice none 0 0)).setCell ⟨w.heap.size, 1, none⟩ (.int .u16 0)).setCell ⟨w.heap.size, 2, none⟩ (.int .u16 0)).setCell ⟨w.heap.size, 3, none⟩ (.slice none 0 0)).setCell ⟨w.heap.size, 4, none⟩ (.slice none 0 0)).cell? ⟨w.heap.size + 1, 0, none⟩ = some (.int .i64 0) := by
    rw [kq, kq, kq, kq, kq]; exact Hq
  have jr : (((((W0.setCell ⟨w.heap.size, 0, none⟩ (.slice none 0 0)).setCell ⟨w.heap.size, 1, none⟩ (.int .u16 0)).setCell ⟨w.heap.size, 2, none⟩ (.int .u16 0)).setCell ⟨w.heap.size, 3, none⟩ (.slice none 0 0)).setCell ⟨w.heap.size, 4, none⟩ (.slice none 0 0)).cell? ⟨w.heap.size + 2, 0, none⟩ = some (.int .i64 0) := by
    rw [kr, kr, kr, kr, kr]; exact Hr
  have jb : Below w.heap.size w (((((W0.setCell ⟨w.heap.size, 0, none⟩ (.slice none 0 0)).setCell ⟨w.heap.size, 1, none⟩ (.int .u16 0)).setCell ⟨w.heap.size, 2, none⟩ (.int .u16 0)).setCell ⟨w.heap.size, 3, none⟩ (.slice none 0 0)).setCell ⟨w.heap.size, 4, none⟩ (.slice none 0 0)) :=
    ((((hb.setCell (by simp) _).setCell (by simp) _).setCell (by simp) _).setCell (by simp) _).setCell (by simp) _
  clear kq kr Hq Hr hb
  generalize ((((W0.setCell ⟨w.heap.size, 0, none⟩ (.slice none 0 0)).setCell ⟨w.heap.size, 1, none⟩ (.int .u16 0)).setCell ⟨w.heap.size, 2, none⟩ (.int .u16 0)).setCell ⟨w.heap.size, 3, none⟩ (.slice none 0 0)).setCell ⟨w.heap.size, 4, none⟩ (.slice none 0 0) = X at *
  have up : ∀ i : Nat, ((X.setCell ⟨w.heap.size + 1, 0, none⟩ (.int .i64 a)).setCell ⟨w.heap.size + 2, 0, none⟩ (.int .i64 b)).drew.cell? ⟨w.heap.size, i, none⟩ = X.cell? ⟨w.heap.size, i, none⟩ := fun i =>
    (World.cell?_setCell_other _ _ _ _ (ne2 i)).trans (World.cell?_setCell_other _ _ _ _ (ne1 i))
  refine ⟨(up 0).trans q0, (up 1).trans q1, (up 2).trans q2, (up 3).trans q3, (up 4).trans q4, ?_, ?_, ?_⟩
  · exact (World.cell?_setCell_other _ _ _ _ ne12).trans (World.cell?_setCell_same _ _ _ jq)
  · exact World.cell?_setCell_same _ _ _ ((World.cell?_setCell_other _ _ _ _ (Ne.symm ne12)).trans jr)
  · exact Below.drew ((jb.setCell (by simp) _).setCell (by simp) _)
theorem leaves_caught {w w' : World} {v0 v1 v2 v3 v4 : Value} {a b : Int} {tmps : Array Value} {R : Ending → World → Prop} (h : ReadMem w w' v0 v1 v2 v3 v4)
    (t2 : tmps[2]?.getD undef = .pointer (some ⟨w.heap.size, 0, none⟩)) (t3 : tmps[3]?.getD undef = .pointer (some ⟨w.heap.size + 1, 0, none⟩)) (t4 : tmps[4]?.getD undef = .pointer (some ⟨w.heap.size + 2, 0, none⟩))
    (hR : ∀ W, Below w.heap.size w W → R (.returned (.tuple #[.agg #[.slice none 0 0, .int .u16 0, .int .u16 0, .slice none 0 0, .slice none 0 0], .int .i64 a, .int .i64 b])) W) :
    Leaves Try.prog Try.f25 tmps R [{ target := Target.fn (Fn.func 59) #[Value.pointer (some ⟨w.heap.size, 0, none⟩), Value.pointer (some ⟨w.heap.size + 1, 0, none⟩), Value.pointer (some ⟨w.heap.size + 2, 0, none⟩)], args := #[] }]
      (.panicking [{ v := .iface 98 (.agg #[.int .i64 a, .int .i64 b]), recovered := false }]) w' := by
  obtain ⟨q0, q1, q2, q3, q4, qq, qr, hb⟩ := caught_cells a b h
  refine leaves_cons (f := 59) (args := #[.pointer (some ⟨w.heap.size, 0, none⟩), .pointer (some ⟨w.heap.size + 1, 0, none⟩), .pointer (some ⟨w.heap.size + 2, 0, none⟩)]) (by simp) (by simp [go_sem]) ?_
  refine (catch_wrong w.heap.size _ _ _ _ _ _ _ a b [] _ h.i0 h.i1 h.i2 h.i3 h.i4 h.q h.r (by have := h.size; omega) h.f0 h.f1 h.f2 h.f3 h.f4 h.fq h.fr).mono ?_
  rintro e u' w2 ⟨rfl, rfl, rfl⟩
  have HRR := hR _ hb
  generalize caughtW w' w.heap.size a b = WF at *
  simp [Leaves, settle, results, Try.results25, go_sem, t2, t3, t4, q0, q1, q2, q3, q4, qq, qr]
  exact HRR
set_option maxRecDepth 8000 in
set_option maxHeartbeats 800000 in
theorem readA_any (s : ByteArray) (w : World) (hs : s.size ≤ maxLen) (hbad : (headE s).2 ≠ 0) (R : Ending → World → Prop) (HR : Hid (∀ e w', ReadPost s w e w' → R e w')) :
    Calls Try.prog 25 #[.string s] w R := by
  have hmf : ∀ (fn : Fn) (first cap : Array Value) (w : World), (Instr.makeFunc fn first cap).run Try.prog w = .ok (.func fn first cap) w := fun _ _ _ _ => rfl
  have HS := Lib.hid hs
  go_enter_defers Try.func25, Try.ntmps25
  go_wp2_with fail
  refine (head_any s _ HS.out).mono ?_
  rintro e w1 ⟨hB, ⟨hne, rfl⟩ | ⟨h0, rfl⟩⟩
  · exact leaves_caught ((readMem_start w).next hB) rfl rfl rfl (fun W hW => HR.out _ _ (readPost_bad (readE_head s hbad) hbad hW))
  · exact absurd h0 hbad
theorem frozen_set (W : World) (p a : Addr) (v : Value) : (W.setCell p v).frozen? a = W.frozen? a := by simp
theorem ReadMem.set {w w' : World} {v0 v1 v2 v3 v4 : Value} (h : ReadMem w w' v0 v1 v2 v3 v4) (u0 u1 u2 u3 u4 : Value) :
    ReadMem w (((((w'.setCell ⟨w.heap.size, 0, none⟩ u0).setCell ⟨w.heap.size, 1, none⟩ u1).setCell ⟨w.heap.size, 2, none⟩ u2).setCell ⟨w.heap.size, 3, none⟩ u3).setCell ⟨w.heap.size, 4, none⟩ u4) u0 u1 u2 u3 u4 := by
  obtain ⟨q0, q1, q2, q3, q4⟩ := set5 w' w.heap.size u0 u1 u2 u3 u4 _ _ _ _ _ h.i0 h.i1 h.i2 h.i3 h.i4
  have ne1 : ∀ i, (⟨w.heap.size + 1, 0, none⟩ : Addr) ≠ ⟨w.heap.size, i, none⟩ := fun i e => by injection e with e1; omega
  have ne2 : ∀ i, (⟨w.heap.size + 2, 0, none⟩ : Addr) ≠ ⟨w.heap.size, i, none⟩ := fun i e => by injection e with e1; omega
  have kq : ∀ (W : World) (i : Nat) (v : Value), (W.setCell ⟨w.heap.size, i, none⟩ v).cell? ⟨w.heap.size + 1, 0, none⟩ = W.cell? ⟨w.heap.size + 1, 0, none⟩ := fun W i v => World.cell?_setCell_other _ _ _ _ (Ne.symm (ne1 i))
  have kr : ∀ (W : World) (i : Nat) (v : Value), (W.setCell ⟨w.heap.size, i, none⟩ v).cell? ⟨w.heap.size + 2, 0, none⟩ = W.cell? ⟨w.heap.size + 2, 0, none⟩ := fun W i v => World.cell?_setCell_other _ _ _ _ (Ne.symm (ne2 i))
  refine ⟨q0, q1, q2, q3, q4, ?_, ?_, ?_, ?_, ?_, ?_, ?_, ?_, ?_, ?_, ?_⟩
  · rw [kq, kq, kq, kq, kq]; exact h.q
  · rw [kr, kr, kr, kr, kr]; exact h.r
  · simp only [frozen_set]; exact h.f0
  · simp only [frozen_set]; exact h.f1
  · simp only [frozen_set]; exact h.f2
  · simp only [frozen_set]; exact h.f3
  · simp only [frozen_set]; exact h.f4
  · simp only [frozen_set]; exact h.fq
  · simp only [frozen_set]; exact h.fr
  · simp; exact h.size
  · exact ((((h.below.setCell (by simp) _).setCell (by simp) _).setCell (by simp) _).setCell (by simp) _).setCell (by simp) _
theorem stopA_cast (s : ByteArray) : (stopA s : Int) = 14 + 5 * wordAt s 10 + 3 * wordAt s 12 + 4096 * wordAt s 4 := by
  have a := nO_cast s
  have b := nR_cast s
  have c := nB_cast s
  unfold stopA startA firstA
  omega
set_option maxRecDepth 8000 in
set_option maxHeartbeats 1600000 in
theorem readB_any (s : ByteArray) (w : World) (hs : s.size ≤ maxLen) (hok : (headE s).2 = 0) (hz : s.size ≠ stopA s + 2) (R : Ending → World → Prop) (HR : Hid (∀ e w', ReadPost s w e w' → R e w')) :
    Calls Try.prog 25 #[.string s] w R := by
  have hmf : ∀ (fn : Fn) (first cap : Array Value) (w : World), (Instr.makeFunc fn first cap).run Try.prog w = .ok (.func fn first cap) w := fun _ _ _ _ => rfl
  have HS := Lib.hid hs
  unfold maxLen at hs
  obtain ⟨h14, _, b0, b1, o1, r1, _, _⟩ := headE_ok s hok
  have o0 := (wordAt_bd s 10).1
  have r0 := (wordAt_bd s 12).1
  have hst := stopA_cast s
  have HK := Lib.hid hok
  clear hok
  go_enter_defers Try.func25, Try.ntmps25
  go_wp2_with fail
  have hA := readMem_start w
  refine (head_any s _ HS.out).mono ?_
  rintro e w1 ⟨hB, ⟨hne, rfl⟩ | ⟨h0, rfl⟩⟩
  · exact absurd HK.out hne
  have hA1 := hA.next hB
  have HA2 := Lib.hid (hA1.set (.slice none 0 0) (.int .u16 (wordAt s 6)) (.int .u16 (wordAt s 8)) (.slice none 0 0) (.slice none 0 0))
  obtain ⟨i0, i1, i2, i3, i4, _, _, f0, f1, f2, f3, f4, _, _, _, _⟩ := hA1
  clear hA hB h0
  by_cases hlt : s.size < stopA s + 2
  · have HE := Lib.hid (readE_short s HK.out hlt)
    have hd : (s.size : Int) < 14 + 5 * wordAt s 10 + 3 * wordAt s 12 + 4096 * wordAt s 4 + 2 := by omega
    clear hst hz
    go_wp2_with fail
    refine (need_no _ _ _ _ ?_).mono ?_
    · first | with_reducible rfl | exact decide_eq_false (by omega)
    rintro e w' ⟨rfl, rfl⟩
    exact leaves_caught HA2.out rfl rfl rfl (fun W hW => HR.out _ _ (readPost_bad HE.out (by decide) hW))
  · have hgt : stopA s + 2 < s.size := by omega
    have HE := Lib.hid (readE_long s HK.out hgt)
    have hd : 14 + 5 * wordAt s 10 + 3 * wordAt s 12 + 4096 * wordAt s 4 + 2 < (s.size : Int) := by omega
    have hd2 : ((s.size : Int) == 14 + 5 * wordAt s 10 + 3 * wordAt s 12 + 4096 * wordAt s 4 + 2) = false := by simp; omega
    have HST := Lib.hid hst
    clear hst hz hlt hgt
    go_wp2_with fail
    refine (need_yes _ _ _ _ ?_).mono ?_
    · first | with_reducible rfl | exact decide_eq_true (by omega)
    rintro e w' ⟨rfl, rfl⟩
    go_wp2_with fail
    refine (need_no _ _ _ _ ?_).mono ?_
    · first | with_reducible rfl | exact hd2
    rintro e w' ⟨rfl, rfl⟩
    exact leaves_caught HA2.out rfl rfl rfl (fun W hW => HR.out _ _ (readPost_bad (HE.out.trans (by rw [← HST.out]; rfl)) (by decide) hW))
end Go.Proofs.Ytgdiaaoekkdibaa
