/- stack: the instructions that access the stack. -/
import Derived.Test.YtieaicdihingkaaGreatK12
namespace Go.Proofs.YtieaicdihingkaaGreat
set_option linter.unusedVariables false
set_option linter.unusedSimpArgs false
open Go.RowKit
theorem made_list (z : Value) (n : Nat) : (madeCells #[z] n).toList = List.replicate n z := by
 apply List.ext_getElem?
 intro j
 rw [List.getElem?_replicate]
 unfold madeCells
 rw [Array.getElem?_toList, Array.getElem?_map]
 by_cases h : j < n
 ·rw [if_pos h, Array.getElem?_range, if_pos h]
  simp [Nat.mod_one]
 ·rw [if_neg h, Array.getElem?_eq_none (by simp; omega)]
  rfl
theorem make_words (W : World) (c : Int) (h0 : 0 ≤ c) (h1 : c < 65536) : ∃ cs : Array Value, cs.toList = (List.replicate c.toNat (0 : Int)).map (Value.int .u16) ∧ (Instr.makeSlice 33 (.int .u16 c) (.int .u16 c)).run Tryz.prog W = .ok (.slice (some ⟨W.heap.size, 0, none⟩) c.toNat c.toNat) (W.alloc (.cells cs 22)) := by
 obtain ⟨i, hi, hz, hs, hby⟩ : ∃ i, Tryz.prog.info? 22 = some i ∧ i.zero = some (.int .u16 0) ∧ i.size = 1 ∧ i.bytes = 2 := by
  have := info22
  cases h : Tryz.prog.info? 22 with
  | none => rw [h] at this; cases this
  | some y => rw [h] at this; simp at this; exact ⟨y, rfl, this⟩
 have hr := run_make (P := Tryz.prog) W 33 22 i _ Tryz.underlying33 hi hz .u16 .u16 c c h0 (Int.le_refl _) (by rw [hby]; omega) (by omega)
 refine ⟨_, ?_, hr⟩
 rw [hs, Nat.mul_one, List.map_replicate]
 exact made_list _ _
def slTo (Z : Obj) (n : Nat) (W : World) (v : Value) (V : World) : Prop := ∃ W9 : World, v = .slice (some ⟨W9.heap.size, 0, none⟩) n n ∧ V = W9.alloc Z ∧ Below W.heap.size W W9
theorem sl_at {Z : Obj} {n : Nat} {W V : World} (h : Below W.heap.size W V) : slTo Z n W (.slice (some ⟨V.heap.size, 0, none⟩) n n) (V.alloc Z) := ⟨V, rfl, rfl, h⟩
theorem own_ne {E : Env} {V : World} {m : Mach} {sv ov : Value} (h : MachAt E V m sv ov) {A : Nat} (hA : V.heap.size ≤ A) : sv.ownBlock ≠ some A := fun e => by
 have := (h.st.lt A e).2
 omega
/-- A row of words that was just made: it can be pushed. -/
theorem src_row {E : Env} {V W9 V3 : World} {m : Mach} {sv ov : Value} {l : List Int} {cs : Array Value} (h : MachAt E V m sv ov) (hb9 : Below V.heap.size V W9) (hb : Below (W9.alloc (.cells cs 22)).heap.size (W9.alloc (.cells cs 22)) V3)
  (hc : cs.toList = l.map (Value.int .u16)) (hx : ∀ x ∈ l, OkU16 x) : Src E V3 (some ⟨W9.heap.size, 0, none⟩) W9.heap.size 0 l ∧ (W9.heap.size ≠ E.B → sv.ownBlock ≠ some W9.heap.size) := by
 have hs := hb.size
 simp only [World.size_alloc] at hs
 refine ⟨⟨.inr rfl, fun k x hk => ?_, by omega, fun e => ?_, hx⟩, fun _ => own_ne h hb9.size⟩
 ·rw [Nat.zero_add]
  refine (made_cells hb k _ ?_).1
  rw [← Array.getElem?_toList, hc, List.getElem?_map, hk]
  rfl
 ·have := h.lt
  have := hb9.size
  omega
theorem Trapped.mk' {E : Env} {V w' : World} {m m1 : Mach} {sv sv1 ov : Value} (h : MachAt E w' m1 sv1 ov) (hr : m1.ram = m.ram) (ho : m1.out = m.out) (hs : w'.ownsRow E.base 22 1 sv m.st.length (m.st.map (Value.int .u16))) (hk : Keeps E.base V w') : Trapped E V m sv ov w' := ⟨⟨m1, sv1, h, hr, ho⟩, hs, hk⟩
theorem MachAt.pokeSt {E : Env} {V : World} {m : Mach} {ov : Value} {g c n : Nat} (h : MachAt E V m (.slice (some ⟨g, 0, none⟩) n c) ov) (k : Nat) (hk : k < m.st.length) {x : Int} (hx : OkU16 x) :
  MachAt E (V.setCell ⟨g, k, none⟩ (.int .u16 x)) { m with st := m.st.set k x } (.slice (some ⟨g, 0, none⟩) n c) ov ∧ Keeps E.base V (V.setCell ⟨g, k, none⟩ (.int .u16 x)) := by
 have hst := h.st
 rcases hst.2 with ⟨e, _⟩ | ⟨g', cap, cur, e, hb, hg, hnc, hcm, hcs, htake⟩
 ·cases e
 ·injection e with e1 e2 e3
  injection e1 with e1
  injection e1 with e1
  subst e1 e3
  have hkp : Keeps E.base V (V.setCell ⟨g, k, none⟩ (.int .u16 x)) := Keeps.set hg hb (.inr (.inr (.inl rfl)))
  refine ⟨⟨?_, ?_, ?_, own_set' h.out hg (by decide), h.bnk.keeps hkp, h.inp.keeps hkp, h.irq.keeps hkp, ?_, h.env⟩, hkp⟩
  ·refine (Below.heap_setCell _ _ _ _ (fun e => ?_)).trans h.blk
   simp only at e
   rw [← e, h.blk] at hg
   simp at hg
  ·obtain ⟨cr, hr, hs, hc⟩ := h.ram
   refine ⟨cr, (Below.heap_setCell _ _ _ _ (fun e => ?_)).trans hr, hs, hc⟩
   simp only at e
   rw [← e, hr] at hg
   simp at hg
  ·rw [Nat.mul_one] at htake hcs
   refine ⟨by simp, .inr ⟨g, c, _, by rw [e2]; simp, hb, setCell_blk hg, by simpa using hnc, hcm, by simpa using hcs, ?_⟩⟩
   simp only [Array.toList_setIfInBounds, List.length_set, Nat.mul_one]
   rw [List.take_set, htake, List.map_set]
  ·obtain ⟨a1, a2, a3, a4, a5, a6, a7, a8, a9, a10, a11, a12, a13, a14⟩ := h.ok
   exact ⟨a1, a2, a3, a4, a5, a6, a7, a8, a9, a10, fun y hy => (List.mem_or_eq_of_mem_set hy).elim (a11 y) (fun e => e ▸ hx), by simpa using a12, a13, a14⟩
def setSt (m : Mach) (l : List Int) : Mach := { m with st := l }
def slotAt (m : Mach) (n : Int) : Option Nat := if 0 ≤ n ∧ n < m.st.length then some n.toNat else none
theorem slotAt_none {m : Mach} {n : Int} (h : slotAt m n = none) : n < 0 ∨ (m.st.length : Int) ≤ n := by
 unfold slotAt at h
 split at h
 ·cases h
 ·omega
theorem slotAt_some {m : Mach} {n : Int} {k : Nat} (h : slotAt m n = some k) : n = (k : Int) ∧ k < m.st.length := by
 unfold slotAt at h
 split at h
 ·simp only [Option.some.injEq] at h; omega
 ·cases h
def pushM (m : Mach) (x : Int) : Except (Int × Int) Mach := if m.st.length + 1 ≤ 4096 then .ok (setSt m (m.st ++ [x])) else .error (5, 0)
def popM (m : Mach) (d : Nat) : Except (Int × Int) Mach := match m.st.getLast? with | none => .error (5, 0) | some x => .ok (setD (setSt m m.st.dropLast) d x)
def enterM (m : Mach) (imm : Int) : Except (Int × Int) Mach :=
 if m.st.length + 1 ≤ 4096 then
  (if m.st.length + 1 + imm.toNat ≤ 4096 then .ok { setSt m (m.st ++ [m.fp] ++ List.replicate imm.toNat 0) with fp := (m.st.length : Int) + 1 } else .error (5, 0))
 else .error (5, 0)
def leaveM (m : Mach) : Except (Int × Int) Mach :=
 if m.fp = 0 ∨ (m.st.length : Int) < m.fp then .error (5, 0) else .ok { setSt m (m.st.take (m.fp.toNat - 1)) with fp := (m.st[m.fp.toNat - 1]?).getD 0 }
def dropM (m : Mach) (imm : Int) : Except (Int × Int) Mach := if imm.toNat ≤ m.st.length then .ok (setSt m (m.st.take (m.st.length - imm.toNat))) else .error (5, 0)
def ldM (m : Mach) (n : Int) (d : Nat) : Except (Int × Int) Mach := match slotAt m n with | none => .error (5, 0) | some k => .ok (setD m d ((m.st[k]?).getD 0))
def stM (m : Mach) (n : Int) (d : Nat) : Except (Int × Int) Mach := match slotAt m n with | none => .error (5, 0) | some k => .ok (setSt m (m.st.set k (m.R d)))
def fpIdx (m : Mach) (imm : Int) : Int := m.fp + sgI imm
def spIdx (m : Mach) (imm : Int) : Int := (m.st.length : Int) - 1 - imm
set_option maxRecDepth 8000 in
set_option maxHeartbeats 4000000 in
theorem stack_push {E : Env} {V : World} {m : Mach} {sv ov : Value} (h : MachAt E V m sv ov) (d : Nat) (si imm aux bank size : Int) (hd : d < 8) (hi : OkU16 imm) : Calls Tryz.prog 44 #[.pointer (some ⟨E.B, 0, none⟩), .agg #[.int .i64 16, .int .i64 (d : Int), .int .i64 si, .int .u16 imm, .int .u16 aux, .int .i64 bank, .int .i64 size]] V (Tried E V m sv ov (some (pushM m (m.R d)))) := by
 obtain ⟨hI, HM, HBel, -⟩ := box26 h 16 d si imm aux bank size
 have HI := Lib.hid hI
 have H := Lib.hid h
 have HD := Lib.hid hd
 have HII := Lib.hid hi
 have d0 : (0 : Int) ≤ (d : Int) := by omega
 have d1 : (d : Int) < 8 := by omega
 clear h hI hd hi
 go_enter Tryz.func44, Tryz.ntmps44
 go_upto_region 1 with (fail)
 generalize V.alloc _ = W0 at *
 have KC : Hid (∀ W, Keeps E.base W0 W → W.cell? ⟨V.heap.size, 0, none⟩ = some (.int .i64 16) ∧ W.cell? ⟨V.heap.size, 1, none⟩ = some (.int .i64 d) ∧ W.cell? ⟨V.heap.size, 2, none⟩ = some (.int .i64 si) ∧ W.cell? ⟨V.heap.size, 3, none⟩ = some (.int .u16 imm) ∧ W.cell? ⟨V.heap.size, 4, none⟩ = some (.int .u16 aux) ∧ W.cell? ⟨V.heap.size, 5, none⟩ = some (.int .i64 bank) ∧ W.cell? ⟨V.heap.size, 6, none⟩ = some (.int .i64 size)) := Lib.hid fun W hW => InsAt.cells (i := ⟨16, d, si, imm, aux, bank, size⟩) (HI.out.keep hW)
 clear HI
 obtain ⟨i0, i1, i2, i3, i4, i5, i6⟩ := KC.out W0 (Keeps.refl _ _)
 go_upto_region 4 with (fail)
 clear i0 i1 i2 i3 i4 i5 i6
 have HRD : Hid (∀ W, Below W0.heap.size W0 W → W.cell? ⟨E.B, 7 + d, none⟩ = some (.int .u16 (m.R d))) := Lib.hid fun W hW => (HM.out.next hW).cell (7 + d) _ (mcells_getR E m sv ov d HD.out)
 refine' wp_region_flowR [[], [], [], [(11, 2)], [(10, 1)], [(13, 4)], [(14, 5)], [(15, 6), (12, 3)], [(16, 7)], [(17, 8)], [(9, 0), (10, 1), (11, 2), (12, 3), (13, 4), (14, 5), (15, 6), (16, 7), (17, 8), (18, 9)]] (relL [eqV _, eqV _, eqV _, eqV _, eqV _, eqV _, eqV _, eqV _, eqV _, slTo (Obj.cells #[.int .u16 (m.R d)] 22) 1 W0]) (by kernel_rfl) (by kernel_rfl) ?_
 rotate_left 9
 refine FlowR.step ?_ ?_
 ·intro V3 hV
  simp only [Dep, lQ]
  intro K hK
  go_simp
  refine hK _ _ ?_ (Below.refl _ _)
  simp only [lR]
  exact rfl
 refine FlowR.step ?_ ?_
 ·intro V3 hV
  simp only [Dep, lQ]
  intro K hK
  go_simp
  refine hK _ _ ?_ (Below.refl _ _)
  simp only [lR]
  exact rfl
 refine FlowR.step ?_ ?_
 ·intro V3 hV
  simp only [Dep, lQ]
  intro K hK
  go_simp
  refine hK _ _ ?_ (Below.refl _ _)
  simp only [lR]
  exact rfl
 refine FlowR.step ?_ ?_
 ·intro V3 hV
  simp only [Dep, lQ]
  rintro x11 ⟨V11, rfl, hb11⟩
  intro K hK
  obtain ⟨i0, i1, i2, i3, i4, i5, i6⟩ := KC.out _ (Keeps.of_below hV)
  go_simp
  refine hK _ _ ?_ (Below.refl _ _)
  simp only [lR]
  exact rfl
 refine FlowR.step ?_ ?_
 ·intro V3 hV
  simp only [Dep, lQ]
  rintro x10 ⟨V10, rfl, hb10⟩
  intro K hK
  go_simp
  refine hK _ _ ?_ (Below.refl _ _)
  simp only [lR]
  exact rfl
 refine FlowR.step ?_ ?_
 ·intro V3 hV
  simp only [Dep, lQ]
  rintro x13 ⟨V13, rfl, hb13⟩
  intro K hK
  go_simp
  refine hK _ _ ?_ (Below.refl _ _)
  simp only [lR]
  exact rfl
 refine FlowR.step ?_ ?_
 ·intro V3 hV
  simp only [Dep, lQ]
  rintro x14 ⟨V14, rfl, hb14⟩
  intro K hK
  go_simp
  refine hK _ _ ?_ (Below.refl _ _)
  simp only [lR]
  exact rfl
 refine FlowR.step ?_ ?_
 ·intro V3 hV
  simp only [Dep, lQ]
  rintro x15 ⟨V15, rfl, hb15⟩
  rintro x12 ⟨V12, rfl, hb12⟩
  intro K hK
  go_simp
  refine hK _ _ ?_ (Below.refl _ _)
  simp only [lR]
  exact rfl
 refine FlowR.step ?_ ?_
 ·intro V3 hV
  simp only [Dep, lQ]
  rintro x16 ⟨V16, rfl, hb16⟩
  intro K hK
  obtain cR := HRD.out _ hV
  go_simp
  refine hK _ _ ?_ (Below.refl _ _)
  simp only [lR]
  exact rfl
 refine FlowR.step ?_ ?_
 ·intro V3 hV
  simp only [Dep, lQ]
  rintro x17 ⟨V17, rfl, hb17⟩
  intro K hK
  go_simp
  exact hK _ _ (sl_at hV) (below1 _ _)
 refine FlowR.last ?_
 intro V3 hV
 simp only [Dep, lQ]
 rintro x9 ⟨V9, rfl, hb9⟩
 rintro x10 ⟨V10, rfl, hb10⟩
 rintro x11 ⟨V11, rfl, hb11⟩
 rintro x12 ⟨V12, rfl, hb12⟩
 rintro x13 ⟨V13, rfl, hb13⟩
 rintro x14 ⟨V14, rfl, hb14⟩
 rintro x15 ⟨V15, rfl, hb15⟩
 rintro x16 ⟨V16, rfl, hb16⟩
 rintro x17 ⟨V17, rfl, hb17⟩
 rintro x18 ⟨V18, ⟨W9, rfl, rfl, hb9⟩, hb18⟩
 intro K hK
 go_simp
 go_at_call 66
 obtain ⟨hsrc, hne⟩ := src_row (l := [m.R d]) HM.out hb9 hb18 rfl (by intro x hx; simp at hx; subst hx; exact H.out.ok.R d)
 refine (push_any (HM.out.next hV) _ _ _ _ [m.R d] hsrc hne (by simp)).mono ?_
 rintro e w9 (⟨hle, rfl, sv', hm', hk', hs', _⟩ | ⟨hle, rfl, ht, hs'⟩)
 ·have HR : Hid (some (pushM m (m.R d)) = some (.ok (setSt m (m.st ++ [m.R d])))) := Lib.hid (by unfold pushM; rw [if_pos (show m.st.length + 1 ≤ 4096 from hle)])
  have HM' := Lib.hid hm'
  have HK' := Lib.hid (((Keeps.of_below HBel.out).trans (Keeps.of_below hV)).trans hk')
  clear hm' hk' hs' hsrc hne hle hb9 hb18
  refine hK _ _ ?_
  clear hK hV
  go_wp2_with fail
  exact bodyPost_ret (v := .bool true) (by simp [results, Tryz.results44, go_sem]) rfl (tried_ok HR.out ⟨⟨_, _, HM'.out⟩, HK'.out⟩)
 ·exact ⟨rfl, tried_err (by unfold pushM; rw [if_neg (show ¬ m.st.length + 1 ≤ 4096 from hle)]) ((ht.pre HM.out hV).pre H.out HBel.out)⟩
set_option maxRecDepth 8000 in
set_option maxHeartbeats 4000000 in
theorem stack_pope {E : Env} {V : World} {m : Mach} {sv ov : Value} (h : MachAt E V m sv ov) (d : Nat) (si imm aux bank size : Int) (hd : d < 8) (hi : OkU16 imm) (hx : m.st = []) : Calls Tryz.prog 44 #[.pointer (some ⟨E.B, 0, none⟩), .agg #[.int .i64 17, .int .i64 (d : Int), .int .i64 si, .int .u16 imm, .int .u16 aux, .int .i64 bank, .int .i64 size]] V (Tried E V m sv ov (some (popM m d))) := by
 obtain ⟨hI, HM, HBel, -⟩ := box26 h 17 d si imm aux bank size
 have HI := Lib.hid hI
 have H := Lib.hid h
 have HD := Lib.hid hd
 have HII := Lib.hid hi
 have d0 : (0 : Int) ≤ (d : Int) := by omega
 have d1 : (d : Int) < 8 := by omega
 have HX := Lib.hid hx
 clear hx
 clear h hI hd hi
 go_enter Tryz.func44, Tryz.ntmps44
 go_upto_region 1 with (fail)
 generalize V.alloc _ = W0 at *
 have KC := kcK (base := E.base) HI.out
 clear HI
 obtain ⟨i0, i1, i2, i3, i4, i5, i6⟩ := KC.out W0 (Keeps.refl _ _)
 go_upto_region 6 with (fail)
 clear i0 i1 i2 i3 i4 i5 i6
 have HR : Hid (some (popM m d) = some (.error (5, 0))) := Lib.hid (by unfold popM; rw [HX.out]; rfl)
 refine wp_region_flowW (S0 := fun W => Below W0.heap.size W0 W) (S1 := fun _ => False) (Z := fun c w' => Tried E V m sv ov (some (popM m d)) (.panicked c) w') 4 (by kernel_rfl) (by kernel_rfl) (by kernel_rfl) (Below.drew (Below.refl _ _)) (fun chain b w' hd hz => ⟨hd, hz⟩) ?_
 iterate 4
  apply FlowW.step
  ·intro V3 K hS hK
   obtain hS := hS.resolve_right id
   obtain ⟨i0, i1, i2, i3, i4, i5, i6⟩ := KC.out _ (Keeps.of_below hS)
   go_simp
   exact hK
  simp only [lQ]
 refine FlowW.call (.int .u16 0) rfl ?_ ?_
 ·intro V3 K hS hK
  go_simp
  go_at_call 73
  refine (pop_any (HM.out.next hS)).mono ?_
  rintro e w9 (⟨_, rfl, rfl⟩ | ⟨l, x, sv', e1, _⟩)
  ·exact ⟨_, rfl, tried_err HR.out (trapped_below H.out (below_next HBel.out hS))⟩
  ·exact absurd (HX.out.symm.trans e1) (by simp)
 simp only [lQ]
 iterate 4
  apply FlowW.after
  ·intro V3 K hS hK
   go_simp
   exact hK
  simp only [lQ]
 refine FlowW.last ?_
 intro V3 K hS hK
 exact hS.elim
set_option maxRecDepth 8000 in
set_option maxHeartbeats 4000000 in
theorem stack_popo {E : Env} {V : World} {m : Mach} {sv ov : Value} (h : MachAt E V m sv ov) (d : Nat) (si imm aux bank size : Int) (hd : d < 8) (hi : OkU16 imm) (l : List Int) (x : Int) (hx : m.st = l ++ [x]) : Calls Tryz.prog 44 #[.pointer (some ⟨E.B, 0, none⟩), .agg #[.int .i64 17, .int .i64 (d : Int), .int .i64 si, .int .u16 imm, .int .u16 aux, .int .i64 bank, .int .i64 size]] V (Tried E V m sv ov (some (popM m d))) := by
 obtain ⟨hI, HM, HBel, -⟩ := box26 h 17 d si imm aux bank size
 have HI := Lib.hid hI
 have H := Lib.hid h
 have HD := Lib.hid hd
 have HII := Lib.hid hi
 have d0 : (0 : Int) ≤ (d : Int) := by omega
 have d1 : (d : Int) < 8 := by omega
 have HX := Lib.hid hx
 clear hx
 clear h hI hd hi
 go_enter Tryz.func44, Tryz.ntmps44
 go_upto_region 1 with (fail)
 generalize V.alloc _ = W0 at *
 have KC := kcK (base := E.base) HI.out
 clear HI
 obtain ⟨i0, i1, i2, i3, i4, i5, i6⟩ := KC.out W0 (Keeps.refl _ _)
 go_upto_region 6 with (fail)
 clear i0 i1 i2 i3 i4 i5 i6
 have HR : Hid (some (popM m d) = some (.ok (setD (setSt m l) d x))) := Lib.hid (by unfold popM; rw [HX.out]; simp)
 have HOX : Hid (OkU16 x) := Lib.hid (H.out.ok.st x (by rw [HX.out]; simp))
 refine wp_region_flowW (S0 := fun W => Below W0.heap.size W0 W) (S1 := fun W => ∃ sv', MachAt E W (setSt m l) sv' ov ∧ Keeps E.base W0 W) (Z := fun _ _ => False) 4 (by kernel_rfl) (by kernel_rfl) (by kernel_rfl) (Below.drew (Below.refl _ _)) (fun chain b w' hd hz => hz.elim) ?_
 iterate 4
  apply FlowW.step
  ·intro V3 K hS hK
   obtain ⟨i0, i1, i2, i3, i4, i5, i6⟩ := KC.out V3 (hS.elim Keeps.of_below fun ⟨_, _, k⟩ => k)
   go_simp
   exact hK
  simp only [lQ]
 refine FlowW.call ?_ rfl ?_ ?_
 rotate_left
 ·intro V3 K hS hK
  go_simp
  go_at_call 73
  refine (pop_any (HM.out.next hS)).mono ?_
  rintro e w9 (⟨e1, _⟩ | ⟨l', x', sv', e1, rfl, hm', rfl⟩)
  ·exact absurd (HX.out.symm.trans e1) (by simp)
  ·obtain ⟨rfl, e2⟩ := List.append_inj' (HX.out.symm.trans e1) rfl
   injection e2 with e2
   subst e2
   exact hK _ ⟨sv', hm', (Keeps.of_below hS).trans ((HM.out.next hS).putK 24 _)⟩
 simp only [lQ]
 iterate 4
  apply FlowW.after
  ·intro V3 K hS hK
   go_simp
   exact hK
  simp only [lQ]
 refine FlowW.last ?_
 intro V3 K hS hK
 obtain ⟨sv', hM, hK2⟩ := hS
 obtain cd := hM.cell (7 + d) _ (mcells_getR E _ sv' ov d HD.out)
 obtain zd := hM.frz (7 + d)
 go_simp
 refine hK _ _ ?_
 have HM3 := Lib.hid hM
 have HK3 := Lib.hid ((Keeps.of_below HBel.out).trans hK2)
 clear cd zd hK hM hK2
 go_wp2_with fail
 exact bodyPost_ret (v := .bool true) (by simp [results, Tryz.results44, go_sem]) rfl (tried_ok HR.out ⟨⟨_, _, HM3.out.setReg d HD.out HOX.out⟩, HK3.out.trans (HM3.out.putK (7 + d) _)⟩)
set_option maxRecDepth 8000 in
set_option maxHeartbeats 4000000 in
theorem stack_enter {E : Env} {V : World} {m : Mach} {sv ov : Value} (h : MachAt E V m sv ov) (d : Nat) (si imm aux bank size : Int) (hd : d < 8) (hi : OkU16 imm) : Calls Tryz.prog 44 #[.pointer (some ⟨E.B, 0, none⟩), .agg #[.int .i64 20, .int .i64 (d : Int), .int .i64 si, .int .u16 imm, .int .u16 aux, .int .i64 bank, .int .i64 size]] V (Tried E V m sv ov (some (enterM m imm))) := by
 obtain ⟨hI, HM, HBel, -⟩ := box26 h 20 d si imm aux bank size
 have HI := Lib.hid hI
 have H := Lib.hid h
 have HD := Lib.hid hd
 have HII := Lib.hid hi
 have d0 : (0 : Int) ≤ (d : Int) := by omega
 have d1 : (d : Int) < 8 := by omega
 clear h hI hd hi
 go_enter Tryz.func44, Tryz.ntmps44
 go_upto_region 1 with (fail)
 generalize V.alloc _ = W0 at *
 have KC : Hid (∀ W, Keeps E.base W0 W → W.cell? ⟨V.heap.size, 0, none⟩ = some (.int .i64 20) ∧ W.cell? ⟨V.heap.size, 1, none⟩ = some (.int .i64 d) ∧ W.cell? ⟨V.heap.size, 2, none⟩ = some (.int .i64 si) ∧ W.cell? ⟨V.heap.size, 3, none⟩ = some (.int .u16 imm) ∧ W.cell? ⟨V.heap.size, 4, none⟩ = some (.int .u16 aux) ∧ W.cell? ⟨V.heap.size, 5, none⟩ = some (.int .i64 bank) ∧ W.cell? ⟨V.heap.size, 6, none⟩ = some (.int .i64 size)) := Lib.hid fun W hW => InsAt.cells (i := ⟨20, d, si, imm, aux, bank, size⟩) (HI.out.keep hW)
 clear HI
 obtain ⟨i0, i1, i2, i3, i4, i5, i6⟩ := KC.out W0 (Keeps.refl _ _)
 have c17 := HM.out.cell 17 _ rfl
 go_wp2_with fail
 clear i0 i1 i2 i3 i4 i5 i6 c17
 obtain ⟨hsrc, hne⟩ := src_row (l := [m.fp]) HM.out (Below.refl _ _) (Below.refl _ _) (cs := #[.int .u16 m.fp]) rfl (by intro x hx; simp at hx; subst hx; exact H.out.ok.fp)
 refine (push_any (HM.out.next (below1 _ _)) _ _ _ _ [m.fp] hsrc hne (by simp)).mono ?_
 rintro e w9 (⟨hle, rfl, sv', hm', hk', hs', _⟩ | ⟨hle, rfl, ht, hs'⟩)
 rotate_left
 ·exact panics rfl (tried_err (by unfold enterM; rw [if_neg (show ¬ m.st.length + 1 ≤ 4096 from hle)]) ((ht.pre HM.out (below1 _ _)).pre H.out HBel.out))
 ·have HLE := Lib.hid (show m.st.length + 1 ≤ 4096 from hle)
  have HM1 := Lib.hid hm'
  have HK1 := Lib.hid ((Keeps.of_below (below1 W0 _)).trans hk')
  have HS1 := Lib.hid ((Saves.of_below (E := E) (below1 W0 _) m.st.length).trans hs' (Nat.le_refl _))
  clear hm' hk' hs' hsrc hne hle
  obtain ⟨p1, c1, rfl, hc1, hp1⟩ := own_slice HM1.out.st
  obtain ⟨n, hn⟩ : ∃ n, (m.st ++ [m.fp]).length = n := ⟨_, rfl⟩
  have c24 : w9.cell? ⟨E.B, 24, none⟩ = some (.slice p1 n c1) := by rw [← hn]; exact HM1.out.cell 24 _ rfl
  have c17 := HM1.out.cell 17 _ rfl
  have z17 := HM1.out.frz 17
  have hn2 : n = m.st.length + 1 := by rw [← hn]; simp
  have x1 : IntKind.u16.wrap (n : Int) = n := by rw [IntKind.wrap_u16]; have := HLE.out; omega
  have HN := Lib.hid hn2
  clear hc1 hp1 hn hn2
  go_upto_region 10 with (fail)
  have HM2 := Lib.hid (HM1.out.setFp (x := (n : Int)) (by unfold OkU16; have := HLE.out; have := HN.out; omega))
  have HK2 := Lib.hid (HK1.out.trans (HM1.out.putK 17 (.int .u16 (n : Int))))
  have HS2 := Lib.hid (HS1.out.trans (Saves.set HM1.out 17 (.int .u16 (n : Int)) m.st.length) (Nat.le_refl _))
  clear c24 c17 z17 x1 HM1 HK1 HS1
  generalize w9.setCell _ _ = W2 at *
  obtain ⟨i0, i1, i2, i3, i4, i5, i6⟩ := KC.out W2 HK2.out
  have him := HII.out
  unfold OkU16 at him
  have hi0 : 0 ≤ imm := him.1
  obtain ⟨cs, hcs, hmk⟩ := make_words W2 imm hi0 (by omega)
  have HCS := Lib.hid hcs
  obtain ⟨z, hz⟩ : ∃ z : Nat, imm.toNat = z := ⟨_, rfl⟩
  rw [hz] at hmk HCS
  have HZ := Lib.hid hz
  clear him hi0 hcs hz
  go_wp2_with fail
  clear hmk i0 i1 i2 i3 i4 i5 i6
  obtain ⟨hsrc, hne⟩ := src_row (l := List.replicate z 0) HM2.out (Below.refl _ _) (Below.refl _ _) HCS.out (by intro x hx; obtain ⟨_, rfl⟩ := List.mem_replicate.1 hx; unfold OkU16; omega)
  have hp := push_any (HM2.out.next (below1 W2 (Obj.cells cs 22))) _ _ _ z (List.replicate z 0) hsrc hne (by have := HII.out; unfold OkU16 at this; have := HZ.out; rw [List.length_replicate]; omega)
  rw [List.length_replicate] at hp
  refine hp.mono ?_
  rintro e w8 (⟨hle, rfl, sv2, hm', hk', hs', _⟩ | ⟨hle, rfl, ht, hs'⟩)
  ·have HR : Hid (some (enterM m imm) = some (.ok { setSt m (m.st ++ [m.fp] ++ List.replicate imm.toNat 0) with fp := (m.st.length : Int) + 1 })) := Lib.hid (by
    unfold enterM
    rw [List.length_replicate] at hle
    simp only [List.length_append, List.length_cons, List.length_nil] at hle
    rw [if_pos HLE.out, if_pos (by have := HZ.out; omega)])
   have HM3 : Hid (MachAt E w8 { setSt m (m.st ++ [m.fp] ++ List.replicate imm.toNat 0) with fp := (m.st.length : Int) + 1 } sv2 ov) := Lib.hid (by
    have h9 := hm'
    dsimp only at h9
    rw [← HZ.out, HN.out] at h9
    exact h9)
   have HK3 := Lib.hid ((HK2.out.trans (Keeps.of_below (below1 _ _))).trans hk')
   clear hm' hk' hs' hle hsrc hne hp
   go_wp2_with fail
   exact bodyPost_ret (v := .bool true) (by simp [results, Tryz.results44, go_sem]) rfl (tried_ok HR.out ⟨⟨_, _, HM3.out⟩, (Keeps.of_below HBel.out).trans HK3.out⟩)
  ·have hR : some (enterM m imm) = some (.error (5, 0)) := by
    unfold enterM
    rw [List.length_replicate] at hle
    simp only [List.length_append, List.length_cons, List.length_nil] at hle
    rw [if_pos HLE.out, if_neg (by have := HZ.out; omega)]
   obtain ⟨⟨m', sv', hM', hr', ho'⟩, _, hk'⟩ := ht
   have hK3 := (HK2.out.trans (Keeps.of_below (below1 _ _))).trans hk'
   have hS3 := (HS2.out.trans (Saves.of_below (E := E) (below1 W2 _) m.st.length) (Nat.le_refl _)).trans hs' (by simp)
   exact panics rfl (tried_err hR (Trapped.mk' hM' hr' ho' (hS3 _ _ _ (Nat.le_refl _) HM.out.st) ((Keeps.of_below HBel.out).trans hK3)))
set_option maxRecDepth 8000 in
set_option maxHeartbeats 4000000 in
theorem stack_leavee {E : Env} {V : World} {m : Mach} {sv ov : Value} (h : MachAt E V m sv ov) (d : Nat) (si imm aux bank size : Int) (hd : d < 8) (hi : OkU16 imm) (hx : m.fp = 0 ∨ (m.st.length : Int) < m.fp) : Calls Tryz.prog 44 #[.pointer (some ⟨E.B, 0, none⟩), .agg #[.int .i64 5, .int .i64 (d : Int), .int .i64 si, .int .u16 imm, .int .u16 aux, .int .i64 bank, .int .i64 size]] V (Tried E V m sv ov (some (leaveM m))) := by
 obtain ⟨hI, HM, HBel, -⟩ := box26 h 5 d si imm aux bank size
 have HI := Lib.hid hI
 have H := Lib.hid h
 have HD := Lib.hid hd
 have HII := Lib.hid hi
 have d0 : (0 : Int) ≤ (d : Int) := by omega
 have d1 : (d : Int) < 8 := by omega
 have HX := Lib.hid hx
 clear hx
 clear h hI hd hi
 go_enter Tryz.func44, Tryz.ntmps44
 go_upto_region 1 with (fail)
 generalize V.alloc _ = W0 at *
 have KC := kcK (base := E.base) HI.out
 clear HI
 obtain ⟨i0, i1, i2, i3, i4, i5, i6⟩ := KC.out W0 (Keeps.refl _ _)
 go_upto_region 12 with (fail)
 clear i0 i1 i2 i3 i4 i5 i6
 obtain ⟨p, cc, rfl, hcc, hp⟩ := own_slice HM.out.st
 have hlen := H.out.ok.len
 have hfp := H.out.ok.fp
 unfold OkU16 at hfp
 have q1 : IntKind.i64.wrap m.fp = m.fp := IntWalk.i64_in _ (by omega)
 have KM : Hid (∀ W, Below W0.heap.size W0 W → W.cell? ⟨E.B, 24, none⟩ = some (.slice p m.st.length cc) ∧ W.cell? ⟨E.B, 17, none⟩ = some (.int .u16 m.fp) ∧ W.frozen? ⟨E.B, 24, none⟩ = false) := Lib.hid fun W hW => by
  have hm := HM.out.next hW
  exact ⟨hm.cell 24 _ rfl, hm.cell 17 _ rfl, hm.frz 24⟩
 have HR : Hid (some (leaveM m) = some (.error (5, 0))) := Lib.hid (by unfold leaveM; rw [if_pos HX.out])
 clear hcc hp
 by_cases h0 : m.fp = 0
 ·have b1 : (m.fp == 0) = true := by rw [beq_iff_eq]; exact h0
  clear hlen hfp h0
  refine wp_region_flow (S := fun W => Below W0.heap.size W0 W) (by kernel_rfl) (by kernel_rfl) (Below.drew (Below.refl _ _)) ?_
  iterate 20
   apply Flow.step
   ·intro V2 K hS hK
    obtain ⟨c24, c17, z24⟩ := KM.out _ hS
    go_simp
    exact hK _ hS
   simp only [lQ]
  refine Flow.done ?_
  intro V2 hS
  have HB2 := Lib.hid (below_next HBel.out hS)
  clear hS
  go_wp2_with (go_at_call 34; refine (raise_any _ _ _).mono ?_; rintro e w' ⟨rfl, rfl⟩)
  exact panics rfl (tried_err HR.out (trapped_below H.out HB2.out))
 ·have b1 : (m.fp == 0) = false := by rw [beq_eq_false_iff_ne]; exact h0
  have b2 : decide ((m.st.length : Int) < m.fp) = true := decide_eq_true (HX.out.resolve_left h0)
  clear hlen hfp h0
  refine wp_region_flow (S := fun W => Below W0.heap.size W0 W) (by kernel_rfl) (by kernel_rfl) (Below.drew (Below.refl _ _)) ?_
  iterate 20
   apply Flow.step
   ·intro V2 K hS hK
    obtain ⟨c24, c17, z24⟩ := KM.out _ hS
    go_simp
    exact hK _ hS
   simp only [lQ]
  refine Flow.done ?_
  intro V2 hS
  have HB2 := Lib.hid (below_next HBel.out hS)
  clear hS
  go_wp2_with (go_at_call 34; refine (raise_any _ _ _).mono ?_; rintro e w' ⟨rfl, rfl⟩)
  exact panics rfl (tried_err HR.out (trapped_below H.out HB2.out))
set_option maxRecDepth 8000 in
set_option maxHeartbeats 4000000 in
theorem stack_leaveo {E : Env} {V : World} {m : Mach} {sv ov : Value} (h : MachAt E V m sv ov) (d : Nat) (si imm aux bank size : Int) (hd : d < 8) (hi : OkU16 imm) (q : Nat) (hx : m.fp = (q : Int) + 1 ∧ q < m.st.length) : Calls Tryz.prog 44 #[.pointer (some ⟨E.B, 0, none⟩), .agg #[.int .i64 5, .int .i64 (d : Int), .int .i64 si, .int .u16 imm, .int .u16 aux, .int .i64 bank, .int .i64 size]] V (Tried E V m sv ov (some (leaveM m))) := by
 obtain ⟨hI, HM, HBel, -⟩ := box26 h 5 d si imm aux bank size
 have HI := Lib.hid hI
 have H := Lib.hid h
 have HD := Lib.hid hd
 have HII := Lib.hid hi
 have d0 : (0 : Int) ≤ (d : Int) := by omega
 have d1 : (d : Int) < 8 := by omega
 have HX := Lib.hid hx
 clear hx
 clear h hI hd hi
 go_enter Tryz.func44, Tryz.ntmps44
 go_upto_region 1 with (fail)
 generalize V.alloc _ = W0 at *
 have KC := kcK (base := E.base) HI.out
 clear HI
 obtain ⟨i0, i1, i2, i3, i4, i5, i6⟩ := KC.out W0 (Keeps.refl _ _)
 go_upto_region 12 with (fail)
 clear i0 i1 i2 i3 i4 i5 i6
 obtain ⟨p, cc, rfl, hcc, hp⟩ := own_slice HM.out.st
 have hlen := H.out.ok.len
 have hfp := H.out.ok.fp
 unfold OkU16 at hfp
 have q1 : IntKind.i64.wrap m.fp = m.fp := IntWalk.i64_in _ (by omega)
 have KM : Hid (∀ W, Below W0.heap.size W0 W → W.cell? ⟨E.B, 24, none⟩ = some (.slice p m.st.length cc) ∧ W.cell? ⟨E.B, 17, none⟩ = some (.int .u16 m.fp) ∧ W.frozen? ⟨E.B, 24, none⟩ = false) := Lib.hid fun W hW => by
  have hm := HM.out.next hW
  exact ⟨hm.cell 24 _ rfl, hm.cell 17 _ rfl, hm.frz 24⟩
 obtain ⟨hq1, hq2⟩ := HX.out
 have b1 : (m.fp == 0) = false := by rw [beq_eq_false_iff_ne]; omega
 have b2 : decide ((m.st.length : Int) < m.fp) = false := decide_eq_false (by omega)
 obtain ⟨g, rfl, hg, hbg, hcell⟩ := hp.resolve_left (by omega)
 have g1 : (0 : Int) ≤ m.fp := by omega
 have g2 : m.fp ≤ (cc : Int) := by omega
 have g3 : m.fp.toNat = q + 1 := by omega
 obtain ⟨x, hx⟩ := at_some m.st q hq2
 have hT : m.st.take (q + 1) = m.st.take q ++ [x] := at_take _ _ _ hx
 have HT := Lib.hid hT
 have HR : Hid (some (leaveM m) = some (.ok { setSt m (m.st.take q) with fp := x })) := Lib.hid (by
  unfold leaveM
  rw [if_neg (by omega), g3, Nat.add_sub_cancel, hx]
  rfl)
 have HOX : Hid (OkU16 x) := Lib.hid (H.out.ok.st x (List.mem_of_getElem? hx))
 have HQ := Lib.hid hq2
 clear hcell hg hbg hx hT hlen hfp hq1 hq2
 refine wp_region_flow (S := fun W => Below W0.heap.size W0 W) (by kernel_rfl) (by kernel_rfl) (Below.drew (Below.refl _ _)) ?_
 iterate 20
  apply Flow.step
  ·intro V2 K hS hK
   obtain ⟨c24, c17, z24⟩ := KM.out _ hS
   go_simp
   exact hK _ hS
  simp only [lQ]
 refine Flow.done ?_
 intro V2 hS
 have HM2 := Lib.hid (HM.out.next hS)
 have HB2 := Lib.hid (below_next HBel.out hS)
 have KM2 : Hid (∀ W, Below V2.heap.size V2 W → W.cell? ⟨E.B, 24, none⟩ = some (.slice (some ⟨g, 0, none⟩) m.st.length cc) ∧ W.cell? ⟨E.B, 17, none⟩ = some (.int .u16 m.fp) ∧ W.frozen? ⟨E.B, 24, none⟩ = false) := Lib.hid fun W hW => KM.out _ (below_next hS hW)
 clear hS KM b1 b2
 go_upto_region 14 with (fail)
 refine' wp_region_flowR [[], [], [(80, 1)], [(81, 2)], [(82, 3)], [], [(84, 5)], [(85, 6)], [(86, 7)], [(87, 8)], [(83, 4), (88, 9)], [(79, 0)], [(90, 11)], [(79, 0), (80, 1), (81, 2), (82, 3), (83, 4), (84, 5), (85, 6), (86, 7), (87, 8), (88, 9), (89, 10), (90, 11), (91, 12)]] (relL [eqV _, eqV _, eqV _, eqV _, eqV _, eqV _, eqV _, eqV _, eqV _, eqV _, eqV _, eqV _, eqV _]) (by kernel_rfl) (by kernel_rfl) ?_
 rotate_left 13
 refine FlowR.step ?_ ?_
 ·intro V3 hV
  simp only [Dep, lQ]
  intro K hK
  go_simp
  refine hK _ _ ?_ (Below.refl _ _)
  simp only [lR]
  exact rfl
 refine FlowR.step ?_ ?_
 ·intro V3 hV
  simp only [Dep, lQ]
  intro K hK
  go_simp
  refine hK _ _ ?_ (Below.refl _ _)
  simp only [lR]
  exact rfl
 refine FlowR.step ?_ ?_
 ·intro V3 hV
  simp only [Dep, lQ]
  rintro x80 ⟨V80, rfl, hb80⟩
  intro K hK
  go_simp
  refine hK _ _ ?_ (Below.refl _ _)
  simp only [lR]
  exact rfl
 refine FlowR.step ?_ ?_
 ·intro V3 hV
  simp only [Dep, lQ]
  rintro x81 ⟨V81, rfl, hb81⟩
  intro K hK
  go_simp
  refine hK _ _ ?_ (Below.refl _ _)
  simp only [lR]
  exact rfl
 refine FlowR.step ?_ ?_
 ·intro V3 hV
  simp only [Dep, lQ]
  rintro x82 ⟨V82, rfl, hb82⟩
  intro K hK
  obtain ⟨c24, c17, z24⟩ := KM2.out _ hV
  go_simp
  refine hK _ _ ?_ (Below.refl _ _)
  simp only [lR]
  exact rfl
 refine FlowR.step ?_ ?_
 ·intro V3 hV
  simp only [Dep, lQ]
  intro K hK
  go_simp
  refine hK _ _ ?_ (Below.refl _ _)
  simp only [lR]
  exact rfl
 refine FlowR.step ?_ ?_
 ·intro V3 hV
  simp only [Dep, lQ]
  rintro x84 ⟨V84, rfl, hb84⟩
  intro K hK
  go_simp
  refine hK _ _ ?_ (Below.refl _ _)
  simp only [lR]
  exact rfl
 refine FlowR.step ?_ ?_
 ·intro V3 hV
  simp only [Dep, lQ]
  rintro x85 ⟨V85, rfl, hb85⟩
  intro K hK
  go_simp
  refine hK _ _ ?_ (Below.refl _ _)
  simp only [lR]
  exact rfl
 refine FlowR.step ?_ ?_
 ·intro V3 hV
  simp only [Dep, lQ]
  rintro x86 ⟨V86, rfl, hb86⟩
  intro K hK
  go_simp
  refine hK _ _ ?_ (Below.refl _ _)
  simp only [lR]
  exact rfl
 refine FlowR.step ?_ ?_
 ·intro V3 hV
  simp only [Dep, lQ]
  rintro x87 ⟨V87, rfl, hb87⟩
  intro K hK
  obtain ⟨c24, c17, z24⟩ := KM2.out _ hV
  go_simp
  refine hK _ _ ?_ (Below.refl _ _)
  simp only [lR]
  exact rfl
 refine FlowR.step ?_ ?_
 ·intro V3 hV
  simp only [Dep, lQ]
  rintro x83 ⟨V83, rfl, hb83⟩
  rintro x88 ⟨V88, rfl, hb88⟩
  intro K hK
  go_simp
  refine hK _ _ ?_ (Below.refl _ _)
  simp only [lR]
  exact rfl
 refine FlowR.step ?_ ?_
 ·intro V3 hV
  simp only [Dep, lQ]
  rintro x79 ⟨V79, rfl, hb79⟩
  intro K hK
  go_simp
  refine hK _ _ ?_ (Below.refl _ _)
  simp only [lR]
  exact rfl
 refine FlowR.step ?_ ?_
 ·intro V3 hV
  simp only [Dep, lQ]
  rintro x90 ⟨V90, rfl, hb90⟩
  intro K hK
  go_simp
  refine hK _ _ ?_ (Below.refl _ _)
  simp only [lR]
  exact rfl
 refine FlowR.last ?_
 intro V3 hV
 simp only [Dep, lQ]
 rintro x79 ⟨V79, rfl, hb79⟩
 rintro x80 ⟨V80, rfl, hb80⟩
 rintro x81 ⟨V81, rfl, hb81⟩
 rintro x82 ⟨V82, rfl, hb82⟩
 rintro x83 ⟨V83, rfl, hb83⟩
 rintro x84 ⟨V84, rfl, hb84⟩
 rintro x85 ⟨V85, rfl, hb85⟩
 rintro x86 ⟨V86, rfl, hb86⟩
 rintro x87 ⟨V87, rfl, hb87⟩
 rintro x88 ⟨V88, rfl, hb88⟩
 rintro x89 ⟨V89, rfl, hb89⟩
 rintro x90 ⟨V90, rfl, hb90⟩
 rintro x91 ⟨V91, rfl, hb91⟩
 intro K hK
 obtain ⟨c24, c17, z24⟩ := KM2.out _ hV
 go_simp
 refine hK _ _ ?_
 have hM3 := HM2.out.next hV
 have HB3 := Lib.hid (below_next HB2.out hV)
 have HM4 : Hid (MachAt E (V3.setCell ⟨E.B, 24, none⟩ (.slice (some ⟨g, 0, none⟩) (q + 1) cc)) (setSt m (m.st.take (q + 1))) (.slice (some ⟨g, 0, none⟩) (q + 1) cc) ov) := Lib.hid (by
  refine hM3.put 24 _ rfl rfl ?_ hM3.out (hM3.ok.cut (fun y hy => List.mem_of_mem_take hy) (by rw [List.length_take]; omega))
  have h1 := hM3.st
  rw [show m.st.map (Value.int .u16) = (m.st.take (q + 1)).map (Value.int .u16) ++ (m.st.drop (q + 1)).map (Value.int .u16) by rw [← List.map_append, List.take_append_drop]] at h1
  have h2 := own_cut h1 (by simp)
  rw [List.length_map] at h2
  have hl : (m.st.take (q + 1)).length = q + 1 := by rw [List.length_take]; have := HQ.out; omega
  dsimp only [setSt]
  rw [hl] at h2 ⊢
  exact h2)
 have HK4 := Lib.hid ((Keeps.of_below HB3.out).trans (hM3.putK 24 (.slice (some ⟨g, 0, none⟩) (q + 1) cc)))
 clear hM3 hV hK c24 c17 z24 g1 g2 KM2
 go_wp2_with fail
 refine (pop_any HM4.out).mono ?_
 rintro e w9 (⟨e1, _⟩ | ⟨l', x', sv', e1, rfl, hm', hw9⟩)
 ·exact absurd (HT.out.symm.trans e1) (by simp)
 ·obtain ⟨rfl, e2⟩ := List.append_inj' (HT.out.symm.trans e1) rfl
  injection e2 with e2
  subst e2
  have HM5 := Lib.hid hm'
  have HK5 := Lib.hid (HK4.out.trans (hw9 ▸ HM4.out.putK 24 sv'))
  have c17 := hm'.cell 17 _ rfl
  have z17 := hm'.frz 17
  clear hm' e1 hw9
  go_wp2_with fail
  exact bodyPost_ret (v := .bool true) (by simp [results, Tryz.results44, go_sem]) rfl (tried_ok HR.out ⟨⟨_, _, HM5.out.setFp HOX.out⟩, HK5.out.trans (HM5.out.putK 17 _)⟩)
set_option maxRecDepth 8000 in
set_option maxHeartbeats 4000000 in
theorem stack_drop {E : Env} {V : World} {m : Mach} {sv ov : Value} (h : MachAt E V m sv ov) (d : Nat) (si imm aux bank size : Int) (hd : d < 8) (hi : OkU16 imm) : Calls Tryz.prog 44 #[.pointer (some ⟨E.B, 0, none⟩), .agg #[.int .i64 21, .int .i64 (d : Int), .int .i64 si, .int .u16 imm, .int .u16 aux, .int .i64 bank, .int .i64 size]] V (Tried E V m sv ov (some (dropM m imm))) := by
 obtain ⟨hI, HM, HBel, -⟩ := box26 h 21 d si imm aux bank size
 have HI := Lib.hid hI
 have H := Lib.hid h
 have HD := Lib.hid hd
 have HII := Lib.hid hi
 have d0 : (0 : Int) ≤ (d : Int) := by omega
 have d1 : (d : Int) < 8 := by omega
 clear h hI hd hi
 go_enter Tryz.func44, Tryz.ntmps44
 go_upto_region 1 with (fail)
 generalize V.alloc _ = W0 at *
 have KC : Hid (∀ W, Keeps E.base W0 W → W.cell? ⟨V.heap.size, 0, none⟩ = some (.int .i64 21) ∧ W.cell? ⟨V.heap.size, 1, none⟩ = some (.int .i64 d) ∧ W.cell? ⟨V.heap.size, 2, none⟩ = some (.int .i64 si) ∧ W.cell? ⟨V.heap.size, 3, none⟩ = some (.int .u16 imm) ∧ W.cell? ⟨V.heap.size, 4, none⟩ = some (.int .u16 aux) ∧ W.cell? ⟨V.heap.size, 5, none⟩ = some (.int .i64 bank) ∧ W.cell? ⟨V.heap.size, 6, none⟩ = some (.int .i64 size)) := Lib.hid fun W hW => InsAt.cells (i := ⟨21, d, si, imm, aux, bank, size⟩) (HI.out.keep hW)
 clear HI
 obtain ⟨i0, i1, i2, i3, i4, i5, i6⟩ := KC.out W0 (Keeps.refl _ _)
 go_wp2_with fail
 clear i0 i1 i2 i3 i4 i5 i6
 go_loopw [102] (fun i_ wr => ∃ k : Nat, k ≤ imm.toNat ∧ i_ = .int .u16 k ∧ k ≤ m.st.length ∧ ∃ sv1, MachAt E wr (setSt m (m.st.take (m.st.length - k))) sv1 ov ∧ Keeps E.base W0 wr ∧ Saves E W0 wr m.st.length) (fun i_ _ => imm.toNat - (intOf i_).toNat)
 case atStart => exact ⟨0, by omega, rfl, by omega, sv, by rw [Nat.sub_zero, List.take_length]; exact HM.out, Keeps.refl _ _, fun _ _ _ _ h => h⟩
 case round =>
  obtain ⟨k, hk, rfl, hkl, sv1, hM, hK, hSv⟩ := hrel
  have HM1 := Lib.hid hM
  have HK1 := Lib.hid hK
  have HS1 := Lib.hid hSv
  have him := HII.out
  unfold OkU16 at him
  clear hM hK hSv
  by_cases hlt : k < imm.toNat
  ·have b0 : decide ((k : Int) < imm) = true := decide_eq_true (by omega)
   have x1 : IntKind.u16.wrap ((k : Int) + 1) = (k : Int) + 1 := by rw [IntKind.wrap_u16]; omega
   clear him
   go_wp2_with fail
   refine (pop_any HM1.out).mono ?_
   rintro e w9 (⟨e1, rfl, rfl⟩ | ⟨l, x, sv', e1, rfl, hm', hw9⟩)
   ·have hlen : m.st.length - k = 0 := by have := congrArg List.length e1; dsimp only [setSt] at this; rw [List.length_take] at this; simp at this; omega
    exact panics (fn := Tryz.f44) rfl (tried_err (by unfold dropM; rw [if_neg (by omega)]) (Trapped.mk' HM1.out rfl rfl (HS1.out _ _ _ (Nat.le_refl _) HM.out.st) ((Keeps.of_below HBel.out).trans HK1.out)))
   ·have hpos : 0 < m.st.length - k := by have := congrArg List.length e1; dsimp only [setSt] at this; rw [List.length_take] at this; simp at this; omega
    have hl : l = m.st.take (m.st.length - (k + 1)) := by
     have := congrArg List.dropLast e1
     dsimp only [setSt] at this
     rw [List.dropLast_concat] at this
     rw [← this, List.dropLast_eq_take, List.take_take, List.length_take]
     congr 1
     omega
    have HM2 : Hid (MachAt E w9 (setSt m (m.st.take (m.st.length - (k + 1)))) sv' ov) := Lib.hid (hl ▸ hm')
    have HK2 := Lib.hid (HK1.out.trans (hw9 ▸ HM1.out.putK 24 sv'))
    have HS2 := Lib.hid (HS1.out.trans (hw9 ▸ Saves.set HM1.out 24 sv' m.st.length) (Nat.le_refl _))
    clear hm' hw9 e1 hl
    go_wp2_with fail
    go_roundw
    case rel => exact ⟨k + 1, by omega, by go_num, by omega, sv', HM2.out, HK2.out, HS2.out⟩
    case measure => simp [intOf]; omega
  ·have hke : (k : Int) = imm := by omega
   have b0 : decide ((k : Int) < imm) = false := decide_eq_false (by omega)
   have HR : Hid (some (dropM m imm) = some (.ok (setSt m (m.st.take (m.st.length - k))))) := Lib.hid (by unfold dropM; rw [if_pos (by omega), show imm.toNat = k by omega])
   clear him hke
   go_wp2_with fail
   exact bodyPost_ret (v := .bool true) (by simp [results, Tryz.results44, go_sem]) rfl (tried_ok HR.out ⟨⟨_, _, HM1.out⟩, (Keeps.of_below HBel.out).trans HK1.out⟩)
set_option maxRecDepth 8000 in
set_option maxHeartbeats 4000000 in
theorem stack_ldse {E : Env} {V : World} {m : Mach} {sv ov : Value} (h : MachAt E V m sv ov) (d : Nat) (si imm aux bank size : Int) (hd : d < 8) (hi : OkU16 imm) (hx : slotAt m (spIdx m imm) = none) : Calls Tryz.prog 44 #[.pointer (some ⟨E.B, 0, none⟩), .agg #[.int .i64 160, .int .i64 (d : Int), .int .i64 si, .int .u16 imm, .int .u16 aux, .int .i64 bank, .int .i64 size]] V (Tried E V m sv ov (some (ldM m (spIdx m imm) d))) := by
 obtain ⟨hI, HM, HBel, -⟩ := box26 h 160 d si imm aux bank size
 have HI := Lib.hid hI
 have H := Lib.hid h
 have HD := Lib.hid hd
 have HII := Lib.hid hi
 have d0 : (0 : Int) ≤ (d : Int) := by omega
 have d1 : (d : Int) < 8 := by omega
 have HX := Lib.hid hx
 clear hx
 clear h hI hd hi
 go_enter Tryz.func44, Tryz.ntmps44
 go_upto_region 1 with (fail)
 generalize V.alloc _ = W0 at *
 have KC := kcK (base := E.base) HI.out
 clear HI
 obtain ⟨i0, i1, i2, i3, i4, i5, i6⟩ := KC.out W0 (Keeps.refl _ _)
 go_upto_region 22 with (fail)
 clear i0 i1 i2 i3 i4 i5 i6
 obtain ⟨p, cc, hsv, hcc, hp⟩ := own_slice HM.out.st
 have hlen := H.out.ok.len
 have hfp := H.out.ok.fp
 have him := HII.out
 unfold OkU16 at hfp him
 have q1 : IntKind.i64.wrap ((m.st.length : Int) - 1) = (m.st.length : Int) - 1 := IntWalk.i64_in _ (by omega)
 have q2 : IntKind.i64.wrap imm = imm := IntWalk.i64_in _ (by omega)
 have q4 : IntKind.i64.wrap ((m.st.length : Int) - 1 - imm) = spIdx m imm := IntWalk.i64_in _ (by omega)
 clear hlen hfp him
 have KM : Hid (∀ W, Below W0.heap.size W0 W → W.cell? ⟨E.B, 24, none⟩ = some (.slice p m.st.length cc) ∧ W.cell? ⟨E.B, 17, none⟩ = some (.int .u16 m.fp) ∧ W.cell? ⟨E.B, 1, none⟩ = some (.int .u16 E.entry) ∧ W.cell? ⟨E.B, 7 + d, none⟩ = some (.int .u16 (m.R d)) ∧ W.frozen? ⟨E.B, 7 + d, none⟩ = false) := Lib.hid fun W hW => by
  have hm := HM.out.next hW
  refine ⟨?_, hm.cell 17 _ rfl, hm.cell 1 _ rfl, hm.cell (7 + d) _ (mcells_getR E m sv ov d HD.out), hm.frz (7 + d)⟩
  rw [← hsv]; exact hm.cell 24 _ rfl
 have HR : Hid (some (ldM m (spIdx m imm) d) = some (.error (5, 0))) := Lib.hid (by unfold ldM; rw [HX.out])
 have HBAD : Hid (spIdx m imm < 0 ∨ (m.st.length : Int) ≤ spIdx m imm) := Lib.hid (slotAt_none HX.out)
 clear hsv hcc hp
 refine wp_region_flowW (S0 := fun W => Below W0.heap.size W0 W) (S1 := fun _ => False) (Z := fun c w' => Tried E V m sv ov (some (ldM m (spIdx m imm) d)) (.panicked c) w') 14 (by kernel_rfl) (by kernel_rfl) (by kernel_rfl) (Below.drew (Below.refl _ _)) (fun chain b w' hd hz => ⟨hd, hz⟩) ?_
 iterate 14
  apply FlowW.step
  ·intro V3 K hS hK
   obtain hS := hS.elim id False.elim
   obtain ⟨i0, i1, i2, i3, i4, i5, i6⟩ := KC.out _ (Keeps.of_below hS)
   obtain ⟨c24, c17, c1, cR, zR⟩ := KM.out _ hS
   go_simp
   exact hK
  simp only [lQ]
 refine FlowW.call (.pointer (some ⟨E.B, 1, none⟩)) rfl ?_ ?_
 ·intro V3 K hS hK
  go_simp
  go_at_call 74
  refine (slot_bad (HM.out.next hS) _ HBAD.out).mono ?_
  rintro e w9 ⟨rfl, rfl⟩
  exact ⟨_, rfl, tried_err HR.out (trapped_below H.out (below_next HBel.out hS))⟩
 simp only [lQ]
 iterate 6
  apply FlowW.after
  ·intro V3 K hS hK
   obtain hS := hS.elim id False.elim
   obtain ⟨i0, i1, i2, i3, i4, i5, i6⟩ := KC.out _ (Keeps.of_below hS)
   obtain ⟨c24, c17, c1, cR, zR⟩ := KM.out _ hS
   go_simp
   exact hK
  simp only [lQ]
 refine FlowW.last ?_
 intro V3 K hS hK
 exact hS.elim
set_option maxRecDepth 8000 in
set_option maxHeartbeats 4000000 in
theorem stack_ldso {E : Env} {V : World} {m : Mach} {sv ov : Value} (h : MachAt E V m sv ov) (d : Nat) (si imm aux bank size : Int) (hd : d < 8) (hi : OkU16 imm) (k : Nat) (hx : slotAt m (spIdx m imm) = some k) : Calls Tryz.prog 44 #[.pointer (some ⟨E.B, 0, none⟩), .agg #[.int .i64 160, .int .i64 (d : Int), .int .i64 si, .int .u16 imm, .int .u16 aux, .int .i64 bank, .int .i64 size]] V (Tried E V m sv ov (some (ldM m (spIdx m imm) d))) := by
 obtain ⟨hI, HM, HBel, -⟩ := box26 h 160 d si imm aux bank size
 have HI := Lib.hid hI
 have H := Lib.hid h
 have HD := Lib.hid hd
 have HII := Lib.hid hi
 have d0 : (0 : Int) ≤ (d : Int) := by omega
 have d1 : (d : Int) < 8 := by omega
 have HX := Lib.hid hx
 clear hx
 clear h hI hd hi
 go_enter Tryz.func44, Tryz.ntmps44
 go_upto_region 1 with (fail)
 generalize V.alloc _ = W0 at *
 have KC := kcK (base := E.base) HI.out
 clear HI
 obtain ⟨i0, i1, i2, i3, i4, i5, i6⟩ := KC.out W0 (Keeps.refl _ _)
 go_upto_region 22 with (fail)
 clear i0 i1 i2 i3 i4 i5 i6
 obtain ⟨p, cc, hsv, hcc, hp⟩ := own_slice HM.out.st
 have hlen := H.out.ok.len
 have hfp := H.out.ok.fp
 have him := HII.out
 unfold OkU16 at hfp him
 have q1 : IntKind.i64.wrap ((m.st.length : Int) - 1) = (m.st.length : Int) - 1 := IntWalk.i64_in _ (by omega)
 have q2 : IntKind.i64.wrap imm = imm := IntWalk.i64_in _ (by omega)
 have q4 : IntKind.i64.wrap ((m.st.length : Int) - 1 - imm) = spIdx m imm := IntWalk.i64_in _ (by omega)
 clear hlen hfp him
 have KM : Hid (∀ W, Below W0.heap.size W0 W → W.cell? ⟨E.B, 24, none⟩ = some (.slice p m.st.length cc) ∧ W.cell? ⟨E.B, 17, none⟩ = some (.int .u16 m.fp) ∧ W.cell? ⟨E.B, 1, none⟩ = some (.int .u16 E.entry) ∧ W.cell? ⟨E.B, 7 + d, none⟩ = some (.int .u16 (m.R d)) ∧ W.frozen? ⟨E.B, 7 + d, none⟩ = false) := Lib.hid fun W hW => by
  have hm := HM.out.next hW
  refine ⟨?_, hm.cell 17 _ rfl, hm.cell 1 _ rfl, hm.cell (7 + d) _ (mcells_getR E m sv ov d HD.out), hm.frz (7 + d)⟩
  rw [← hsv]; exact hm.cell 24 _ rfl
 have hk : spIdx m imm = (k : Int) ∧ k < m.st.length := by
  exact slotAt_some HX.out
 obtain ⟨x, hx⟩ := at_some m.st k hk.2
 obtain ⟨g, rfl, hg, hbg, hcell⟩ := hp.resolve_left (by omega)
 have HCX : Hid (∀ W, Below W0.heap.size W0 W → W.cell? ⟨g, k, none⟩ = some (.int .u16 x)) := Lib.hid fun W hW => (hW.cell (p := ⟨g, k, none⟩) hg).trans (hcell k _ (by rw [List.getElem?_map, hx]; rfl)).1
 have HR : Hid (some (ldM m (spIdx m imm) d) = some (.ok (setD m d x))) := Lib.hid (by unfold ldM; rw [HX.out]; dsimp only; rw [hx]; rfl)
 have HOX : Hid (OkU16 x) := Lib.hid (H.out.ok.st x (List.mem_of_getElem? hx))
 have HC : Hid (∀ W, Below W0.heap.size W0 W → Calls Tryz.prog 74 #[.pointer (some ⟨E.B, 0, none⟩), .int .i64 (spIdx m imm)] W fun e w' => e = .returned (.pointer (some ⟨g, k, none⟩)) ∧ W = w') := Lib.hid fun W hW => by
  rw [hk.1]
  refine (slot_ok (HM.out.next hW) k hk.2).mono fun e w' q => ?_
  obtain ⟨⟨g', c', e1, e2⟩, e3⟩ := q
  rw [hsv] at e1
  injection e1 with e1; injection e1 with e1; injection e1 with e1; subst e1
  exact ⟨e2, e3⟩
 clear hk hx hcell hsv hg hbg
 refine wp_region_flowW (S0 := fun W => Below W0.heap.size W0 W) (S1 := fun W => Below W0.heap.size W0 W) (Z := fun _ _ => False) 14 (by kernel_rfl) (by kernel_rfl) (by kernel_rfl) (Below.drew (Below.refl _ _)) (fun chain b w' hd hz => hz.elim) ?_
 iterate 14
  apply FlowW.step
  ·intro V3 K hS hK
   obtain hS := hS.elim id id
   obtain ⟨i0, i1, i2, i3, i4, i5, i6⟩ := KC.out _ (Keeps.of_below hS)
   obtain ⟨c24, c17, c1, cR, zR⟩ := KM.out _ hS
   obtain cX := HCX.out _ hS
   go_simp
   exact hK
  simp only [lQ]
 refine FlowW.call ?_ rfl ?_ ?_
 rotate_left
 ·intro V3 K hS hK
  go_simp
  go_at_call 74
  refine (HC.out _ hS).mono ?_
  rintro e w9 ⟨rfl, rfl⟩
  exact hK _ hS
 simp only [lQ]
 iterate 6
  apply FlowW.after
  ·intro V3 K hS hK
   obtain hS := hS.elim id id
   obtain ⟨i0, i1, i2, i3, i4, i5, i6⟩ := KC.out _ (Keeps.of_below hS)
   obtain ⟨c24, c17, c1, cR, zR⟩ := KM.out _ hS
   obtain cX := HCX.out _ hS
   go_simp
   exact hK
  simp only [lQ]
 refine FlowW.last ?_
 intro V3 K hS hK
 obtain ⟨c24, c17, c1, cR, zR⟩ := KM.out _ hS
 go_simp
 refine hK _ _ ?_
 have HM3 := Lib.hid (HM.out.next hS)
 have HB3 := Lib.hid (below_next HBel.out hS)
 clear c24 c17 c1 cR zR hS hK
 go_wp2_with fail
 exact bodyPost_ret (v := .bool true) (by simp [results, Tryz.results44, go_sem]) rfl (tried_ok HR.out ⟨⟨_, _, HM3.out.setReg d HD.out HOX.out⟩, (Keeps.of_below HB3.out).trans (HM3.out.putK (7 + d) _)⟩)
set_option maxRecDepth 8000 in
set_option maxHeartbeats 4000000 in
theorem stack_stse {E : Env} {V : World} {m : Mach} {sv ov : Value} (h : MachAt E V m sv ov) (d : Nat) (si imm aux bank size : Int) (hd : d < 8) (hi : OkU16 imm) (hx : slotAt m (spIdx m imm) = none) : Calls Tryz.prog 44 #[.pointer (some ⟨E.B, 0, none⟩), .agg #[.int .i64 161, .int .i64 (d : Int), .int .i64 si, .int .u16 imm, .int .u16 aux, .int .i64 bank, .int .i64 size]] V (Tried E V m sv ov (some (stM m (spIdx m imm) d))) := by
 obtain ⟨hI, HM, HBel, -⟩ := box26 h 161 d si imm aux bank size
 have HI := Lib.hid hI
 have H := Lib.hid h
 have HD := Lib.hid hd
 have HII := Lib.hid hi
 have d0 : (0 : Int) ≤ (d : Int) := by omega
 have d1 : (d : Int) < 8 := by omega
 have HX := Lib.hid hx
 clear hx
 clear h hI hd hi
 go_enter Tryz.func44, Tryz.ntmps44
 go_upto_region 1 with (fail)
 generalize V.alloc _ = W0 at *
 have KC := kcK (base := E.base) HI.out
 clear HI
 obtain ⟨i0, i1, i2, i3, i4, i5, i6⟩ := KC.out W0 (Keeps.refl _ _)
 go_upto_region 24 with (fail)
 clear i0 i1 i2 i3 i4 i5 i6
 obtain ⟨p, cc, rfl, hcc, hp⟩ := own_slice HM.out.st
 have hlen := H.out.ok.len
 have hfp := H.out.ok.fp
 have him := HII.out
 unfold OkU16 at hfp him
 have q1 : IntKind.i64.wrap ((m.st.length : Int) - 1) = (m.st.length : Int) - 1 := IntWalk.i64_in _ (by omega)
 have q2 : IntKind.i64.wrap imm = imm := IntWalk.i64_in _ (by omega)
 have q4 : IntKind.i64.wrap ((m.st.length : Int) - 1 - imm) = spIdx m imm := IntWalk.i64_in _ (by omega)
 clear hlen hfp him
 have KM : Hid (∀ W, Below W0.heap.size W0 W → W.cell? ⟨E.B, 24, none⟩ = some (.slice p m.st.length cc) ∧ W.cell? ⟨E.B, 17, none⟩ = some (.int .u16 m.fp) ∧ W.cell? ⟨E.B, 7 + d, none⟩ = some (.int .u16 (m.R d))) := Lib.hid fun W hW => by
  have hm := HM.out.next hW
  exact ⟨hm.cell 24 _ rfl, hm.cell 17 _ rfl, hm.cell (7 + d) _ (mcells_getR E m _ ov d HD.out)⟩
 have HR : Hid (some (stM m (spIdx m imm) d) = some (.error (5, 0))) := Lib.hid (by unfold stM; rw [HX.out])
 have HBAD : Hid (spIdx m imm < 0 ∨ (m.st.length : Int) ≤ spIdx m imm) := Lib.hid (slotAt_none HX.out)
 clear hcc hp
 refine wp_region_flowW (S0 := fun W => Below W0.heap.size W0 W) (S1 := fun _ => False) (Z := fun c w' => Tried E V m (.slice p m.st.length cc) ov (some (stM m (spIdx m imm) d)) (.panicked c) w') 11 (by kernel_rfl) (by kernel_rfl) (by kernel_rfl) (Below.drew (Below.refl _ _)) (fun chain b w' hd hz => ⟨hd, hz⟩) ?_
 iterate 11
  apply FlowW.step
  ·intro V3 K hS hK
   obtain hS := hS.elim id False.elim
   obtain ⟨i0, i1, i2, i3, i4, i5, i6⟩ := KC.out _ (Keeps.of_below hS)
   obtain ⟨c24, c17, cR⟩ := KM.out _ hS
   go_simp
   exact hK
  simp only [lQ]
 refine FlowW.call (.pointer (some ⟨E.B, 1, none⟩)) rfl ?_ ?_
 ·intro V3 K hS hK
  go_simp
  go_at_call 74
  refine (slot_bad (HM.out.next hS) _ HBAD.out).mono ?_
  rintro e w9 ⟨rfl, rfl⟩
  exact ⟨_, rfl, tried_err HR.out (trapped_below H.out (below_next HBel.out hS))⟩
 simp only [lQ]
 iterate 9
  apply FlowW.after
  ·intro V3 K hS hK
   obtain hS := hS.elim id False.elim
   obtain ⟨i0, i1, i2, i3, i4, i5, i6⟩ := KC.out _ (Keeps.of_below hS)
   obtain ⟨c24, c17, cR⟩ := KM.out _ hS
   go_simp
   exact hK
  simp only [lQ]
 refine FlowW.last ?_
 intro V3 K hS hK
 exact hS.elim
set_option maxRecDepth 8000 in
set_option maxHeartbeats 4000000 in
theorem stack_stso {E : Env} {V : World} {m : Mach} {sv ov : Value} (h : MachAt E V m sv ov) (d : Nat) (si imm aux bank size : Int) (hd : d < 8) (hi : OkU16 imm) (k : Nat) (hx : slotAt m (spIdx m imm) = some k) : Calls Tryz.prog 44 #[.pointer (some ⟨E.B, 0, none⟩), .agg #[.int .i64 161, .int .i64 (d : Int), .int .i64 si, .int .u16 imm, .int .u16 aux, .int .i64 bank, .int .i64 size]] V (Tried E V m sv ov (some (stM m (spIdx m imm) d))) := by
 obtain ⟨hI, HM, HBel, -⟩ := box26 h 161 d si imm aux bank size
 have HI := Lib.hid hI
 have H := Lib.hid h
 have HD := Lib.hid hd
 have HII := Lib.hid hi
 have d0 : (0 : Int) ≤ (d : Int) := by omega
 have d1 : (d : Int) < 8 := by omega
 have HX := Lib.hid hx
 clear hx
 clear h hI hd hi
 go_enter Tryz.func44, Tryz.ntmps44
 go_upto_region 1 with (fail)
 generalize V.alloc _ = W0 at *
 have KC := kcK (base := E.base) HI.out
 clear HI
 obtain ⟨i0, i1, i2, i3, i4, i5, i6⟩ := KC.out W0 (Keeps.refl _ _)
 go_upto_region 24 with (fail)
 clear i0 i1 i2 i3 i4 i5 i6
 obtain ⟨p, cc, rfl, hcc, hp⟩ := own_slice HM.out.st
 have hlen := H.out.ok.len
 have hfp := H.out.ok.fp
 have him := HII.out
 unfold OkU16 at hfp him
 have q1 : IntKind.i64.wrap ((m.st.length : Int) - 1) = (m.st.length : Int) - 1 := IntWalk.i64_in _ (by omega)
 have q2 : IntKind.i64.wrap imm = imm := IntWalk.i64_in _ (by omega)
 have q4 : IntKind.i64.wrap ((m.st.length : Int) - 1 - imm) = spIdx m imm := IntWalk.i64_in _ (by omega)
 clear hlen hfp him
 have KM : Hid (∀ W, Below W0.heap.size W0 W → W.cell? ⟨E.B, 24, none⟩ = some (.slice p m.st.length cc) ∧ W.cell? ⟨E.B, 17, none⟩ = some (.int .u16 m.fp) ∧ W.cell? ⟨E.B, 7 + d, none⟩ = some (.int .u16 (m.R d))) := Lib.hid fun W hW => by
  have hm := HM.out.next hW
  exact ⟨hm.cell 24 _ rfl, hm.cell 17 _ rfl, hm.cell (7 + d) _ (mcells_getR E m _ ov d HD.out)⟩
 have hk : spIdx m imm = (k : Int) ∧ k < m.st.length := by
  exact slotAt_some HX.out
 obtain ⟨x, hx⟩ := at_some m.st k hk.2
 obtain ⟨g, rfl, hg, hbg, hcell⟩ := hp.resolve_left (by omega)
 have HCX : Hid (∀ W, Below W0.heap.size W0 W → W.cell? ⟨g, k, none⟩ = some (.int .u16 x) ∧ W.frozen? ⟨g, k, none⟩ = false) := Lib.hid fun W hW => ⟨(hW.cell (p := ⟨g, k, none⟩) hg).trans (hcell k _ (by rw [List.getElem?_map, hx]; rfl)).1, (hW.frozen (p := ⟨g, k, none⟩) hg).trans (hcell k _ (by rw [List.getElem?_map, hx]; rfl)).2⟩
 have HR : Hid (some (stM m (spIdx m imm) d) = some (.ok (setSt m (m.st.set k (m.R d))))) := Lib.hid (by unfold stM; rw [HX.out])
 have HKL := Lib.hid hk.2
 have HC : Hid (∀ W, Below W0.heap.size W0 W → Calls Tryz.prog 74 #[.pointer (some ⟨E.B, 0, none⟩), .int .i64 (spIdx m imm)] W fun e w' => e = .returned (.pointer (some ⟨g, k, none⟩)) ∧ W = w') := Lib.hid fun W hW => by
  rw [hk.1]
  refine (slot_ok (HM.out.next hW) k hk.2).mono fun e w' q => ?_
  obtain ⟨⟨g', c', e1, e2⟩, e3⟩ := q
  injection e1 with e1; injection e1 with e1; injection e1 with e1; subst e1
  exact ⟨e2, e3⟩
 clear hk hx hcell hg hbg
 refine wp_region_flowW (S0 := fun W => Below W0.heap.size W0 W) (S1 := fun W => Below W0.heap.size W0 W) (Z := fun _ _ => False) 11 (by kernel_rfl) (by kernel_rfl) (by kernel_rfl) (Below.drew (Below.refl _ _)) (fun chain b w' hd hz => hz.elim) ?_
 iterate 11
  apply FlowW.step
  ·intro V3 K hS hK
   obtain hS := hS.elim id id
   obtain ⟨i0, i1, i2, i3, i4, i5, i6⟩ := KC.out _ (Keeps.of_below hS)
   obtain ⟨c24, c17, cR⟩ := KM.out _ hS
   go_simp
   exact hK
  simp only [lQ]
 refine FlowW.call ?_ rfl ?_ ?_
 rotate_left
 ·intro V3 K hS hK
  go_simp
  go_at_call 74
  refine (HC.out _ hS).mono ?_
  rintro e w9 ⟨rfl, rfl⟩
  exact hK _ hS
 simp only [lQ]
 iterate 9
  apply FlowW.after
  ·intro V3 K hS hK
   obtain hS := hS.elim id id
   obtain ⟨i0, i1, i2, i3, i4, i5, i6⟩ := KC.out _ (Keeps.of_below hS)
   obtain ⟨c24, c17, cR⟩ := KM.out _ hS
   go_simp
   exact hK
  simp only [lQ]
 refine FlowW.last ?_
 intro V3 K hS hK
 obtain ⟨cX, zX⟩ := HCX.out _ hS
 go_simp
 refine hK _ _ ?_
 have HM3 := Lib.hid (HM.out.next hS)
 have HB3 := Lib.hid (below_next HBel.out hS)
 clear cX zX hS hK
 go_wp2_with fail
 exact bodyPost_ret (v := .bool true) (by simp [results, Tryz.results44, go_sem]) rfl (tried_ok HR.out ⟨⟨_, _, (HM3.out.pokeSt k HKL.out (H.out.ok.R d)).1⟩, (Keeps.of_below HB3.out).trans (HM3.out.pokeSt k HKL.out (H.out.ok.R d)).2⟩)
set_option maxRecDepth 8000 in
set_option maxHeartbeats 4000000 in
theorem stack_ldfe {E : Env} {V : World} {m : Mach} {sv ov : Value} (h : MachAt E V m sv ov) (d : Nat) (si imm aux bank size : Int) (hd : d < 8) (hi : OkU16 imm) (hx : slotAt m (fpIdx m imm) = none) : Calls Tryz.prog 44 #[.pointer (some ⟨E.B, 0, none⟩), .agg #[.int .i64 162, .int .i64 (d : Int), .int .i64 si, .int .u16 imm, .int .u16 aux, .int .i64 bank, .int .i64 size]] V (Tried E V m sv ov (some (ldM m (fpIdx m imm) d))) := by
 obtain ⟨hI, HM, HBel, -⟩ := box26 h 162 d si imm aux bank size
 have HI := Lib.hid hI
 have H := Lib.hid h
 have HD := Lib.hid hd
 have HII := Lib.hid hi
 have d0 : (0 : Int) ≤ (d : Int) := by omega
 have d1 : (d : Int) < 8 := by omega
 have HX := Lib.hid hx
 clear hx
 clear h hI hd hi
 go_enter Tryz.func44, Tryz.ntmps44
 go_upto_region 1 with (fail)
 generalize V.alloc _ = W0 at *
 have KC := kcK (base := E.base) HI.out
 clear HI
 obtain ⟨i0, i1, i2, i3, i4, i5, i6⟩ := KC.out W0 (Keeps.refl _ _)
 go_upto_region 26 with (fail)
 clear i0 i1 i2 i3 i4 i5 i6
 obtain ⟨p, cc, hsv, hcc, hp⟩ := own_slice HM.out.st
 have hlen := H.out.ok.len
 have hfp := H.out.ok.fp
 have him := HII.out
 unfold OkU16 at hfp him
 have q1 : IntKind.i64.wrap m.fp = m.fp := IntWalk.i64_in _ (by omega)
 have q2 : IntKind.i16.wrap imm = sgI imm := sgI_wrap imm him.1 him.2
 have q3b : -32768 ≤ sgI imm ∧ sgI imm < 32768 := by unfold sgI; split <;> omega
 have q3 : IntKind.i64.wrap (sgI imm) = sgI imm := IntWalk.i64_in _ (by omega)
 have q4 : IntKind.i64.wrap (m.fp + sgI imm) = fpIdx m imm := IntWalk.i64_in _ (by omega)
 clear hlen hfp him q3b
 have KM : Hid (∀ W, Below W0.heap.size W0 W → W.cell? ⟨E.B, 24, none⟩ = some (.slice p m.st.length cc) ∧ W.cell? ⟨E.B, 17, none⟩ = some (.int .u16 m.fp) ∧ W.cell? ⟨E.B, 1, none⟩ = some (.int .u16 E.entry) ∧ W.cell? ⟨E.B, 7 + d, none⟩ = some (.int .u16 (m.R d)) ∧ W.frozen? ⟨E.B, 7 + d, none⟩ = false) := Lib.hid fun W hW => by
  have hm := HM.out.next hW
  refine ⟨?_, hm.cell 17 _ rfl, hm.cell 1 _ rfl, hm.cell (7 + d) _ (mcells_getR E m sv ov d HD.out), hm.frz (7 + d)⟩
  rw [← hsv]; exact hm.cell 24 _ rfl
 have HR : Hid (some (ldM m (fpIdx m imm) d) = some (.error (5, 0))) := Lib.hid (by unfold ldM; rw [HX.out])
 have HBAD : Hid (fpIdx m imm < 0 ∨ (m.st.length : Int) ≤ fpIdx m imm) := Lib.hid (slotAt_none HX.out)
 clear hsv hcc hp
 refine wp_region_flowW (S0 := fun W => Below W0.heap.size W0 W) (S1 := fun _ => False) (Z := fun c w' => Tried E V m sv ov (some (ldM m (fpIdx m imm) d)) (.panicked c) w') 15 (by kernel_rfl) (by kernel_rfl) (by kernel_rfl) (Below.drew (Below.refl _ _)) (fun chain b w' hd hz => ⟨hd, hz⟩) ?_
 iterate 15
  apply FlowW.step
  ·intro V3 K hS hK
   obtain hS := hS.elim id False.elim
   obtain ⟨i0, i1, i2, i3, i4, i5, i6⟩ := KC.out _ (Keeps.of_below hS)
   obtain ⟨c24, c17, c1, cR, zR⟩ := KM.out _ hS
   go_simp
   exact hK
  simp only [lQ]
 refine FlowW.call (.pointer (some ⟨E.B, 1, none⟩)) rfl ?_ ?_
 ·intro V3 K hS hK
  go_simp
  go_at_call 74
  refine (slot_bad (HM.out.next hS) _ HBAD.out).mono ?_
  rintro e w9 ⟨rfl, rfl⟩
  exact ⟨_, rfl, tried_err HR.out (trapped_below H.out (below_next HBel.out hS))⟩
 simp only [lQ]
 iterate 6
  apply FlowW.after
  ·intro V3 K hS hK
   obtain hS := hS.elim id False.elim
   obtain ⟨i0, i1, i2, i3, i4, i5, i6⟩ := KC.out _ (Keeps.of_below hS)
   obtain ⟨c24, c17, c1, cR, zR⟩ := KM.out _ hS
   go_simp
   exact hK
  simp only [lQ]
 refine FlowW.last ?_
 intro V3 K hS hK
 exact hS.elim
set_option maxRecDepth 8000 in
set_option maxHeartbeats 4000000 in
theorem stack_ldfo {E : Env} {V : World} {m : Mach} {sv ov : Value} (h : MachAt E V m sv ov) (d : Nat) (si imm aux bank size : Int) (hd : d < 8) (hi : OkU16 imm) (k : Nat) (hx : slotAt m (fpIdx m imm) = some k) : Calls Tryz.prog 44 #[.pointer (some ⟨E.B, 0, none⟩), .agg #[.int .i64 162, .int .i64 (d : Int), .int .i64 si, .int .u16 imm, .int .u16 aux, .int .i64 bank, .int .i64 size]] V (Tried E V m sv ov (some (ldM m (fpIdx m imm) d))) := by
 obtain ⟨hI, HM, HBel, -⟩ := box26 h 162 d si imm aux bank size
 have HI := Lib.hid hI
 have H := Lib.hid h
 have HD := Lib.hid hd
 have HII := Lib.hid hi
 have d0 : (0 : Int) ≤ (d : Int) := by omega
 have d1 : (d : Int) < 8 := by omega
 have HX := Lib.hid hx
 clear hx
 clear h hI hd hi
 go_enter Tryz.func44, Tryz.ntmps44
 go_upto_region 1 with (fail)
 generalize V.alloc _ = W0 at *
 have KC := kcK (base := E.base) HI.out
 clear HI
 obtain ⟨i0, i1, i2, i3, i4, i5, i6⟩ := KC.out W0 (Keeps.refl _ _)
 go_upto_region 26 with (fail)
 clear i0 i1 i2 i3 i4 i5 i6
 obtain ⟨p, cc, hsv, hcc, hp⟩ := own_slice HM.out.st
 have hlen := H.out.ok.len
 have hfp := H.out.ok.fp
 have him := HII.out
 unfold OkU16 at hfp him
 have q1 : IntKind.i64.wrap m.fp = m.fp := IntWalk.i64_in _ (by omega)
 have q2 : IntKind.i16.wrap imm = sgI imm := sgI_wrap imm him.1 him.2
 have q3b : -32768 ≤ sgI imm ∧ sgI imm < 32768 := by unfold sgI; split <;> omega
 have q3 : IntKind.i64.wrap (sgI imm) = sgI imm := IntWalk.i64_in _ (by omega)
 have q4 : IntKind.i64.wrap (m.fp + sgI imm) = fpIdx m imm := IntWalk.i64_in _ (by omega)
 clear hlen hfp him q3b
 have KM : Hid (∀ W, Below W0.heap.size W0 W → W.cell? ⟨E.B, 24, none⟩ = some (.slice p m.st.length cc) ∧ W.cell? ⟨E.B, 17, none⟩ = some (.int .u16 m.fp) ∧ W.cell? ⟨E.B, 1, none⟩ = some (.int .u16 E.entry) ∧ W.cell? ⟨E.B, 7 + d, none⟩ = some (.int .u16 (m.R d)) ∧ W.frozen? ⟨E.B, 7 + d, none⟩ = false) := Lib.hid fun W hW => by
  have hm := HM.out.next hW
  refine ⟨?_, hm.cell 17 _ rfl, hm.cell 1 _ rfl, hm.cell (7 + d) _ (mcells_getR E m sv ov d HD.out), hm.frz (7 + d)⟩
  rw [← hsv]; exact hm.cell 24 _ rfl
 have hk : fpIdx m imm = (k : Int) ∧ k < m.st.length := by
  exact slotAt_some HX.out
 obtain ⟨x, hx⟩ := at_some m.st k hk.2
 obtain ⟨g, rfl, hg, hbg, hcell⟩ := hp.resolve_left (by omega)
 have HCX : Hid (∀ W, Below W0.heap.size W0 W → W.cell? ⟨g, k, none⟩ = some (.int .u16 x)) := Lib.hid fun W hW => (hW.cell (p := ⟨g, k, none⟩) hg).trans (hcell k _ (by rw [List.getElem?_map, hx]; rfl)).1
 have HR : Hid (some (ldM m (fpIdx m imm) d) = some (.ok (setD m d x))) := Lib.hid (by unfold ldM; rw [HX.out]; dsimp only; rw [hx]; rfl)
 have HOX : Hid (OkU16 x) := Lib.hid (H.out.ok.st x (List.mem_of_getElem? hx))
 have HC : Hid (∀ W, Below W0.heap.size W0 W → Calls Tryz.prog 74 #[.pointer (some ⟨E.B, 0, none⟩), .int .i64 (fpIdx m imm)] W fun e w' => e = .returned (.pointer (some ⟨g, k, none⟩)) ∧ W = w') := Lib.hid fun W hW => by
  rw [hk.1]
  refine (slot_ok (HM.out.next hW) k hk.2).mono fun e w' q => ?_
  obtain ⟨⟨g', c', e1, e2⟩, e3⟩ := q
  rw [hsv] at e1
  injection e1 with e1; injection e1 with e1; injection e1 with e1; subst e1
  exact ⟨e2, e3⟩
 clear hk hx hcell hsv hg hbg
 refine wp_region_flowW (S0 := fun W => Below W0.heap.size W0 W) (S1 := fun W => Below W0.heap.size W0 W) (Z := fun _ _ => False) 15 (by kernel_rfl) (by kernel_rfl) (by kernel_rfl) (Below.drew (Below.refl _ _)) (fun chain b w' hd hz => hz.elim) ?_
 iterate 15
  apply FlowW.step
  ·intro V3 K hS hK
   obtain hS := hS.elim id id
   obtain ⟨i0, i1, i2, i3, i4, i5, i6⟩ := KC.out _ (Keeps.of_below hS)
   obtain ⟨c24, c17, c1, cR, zR⟩ := KM.out _ hS
   obtain cX := HCX.out _ hS
   go_simp
   exact hK
  simp only [lQ]
 refine FlowW.call ?_ rfl ?_ ?_
 rotate_left
 ·intro V3 K hS hK
  go_simp
  go_at_call 74
  refine (HC.out _ hS).mono ?_
  rintro e w9 ⟨rfl, rfl⟩
  exact hK _ hS
 simp only [lQ]
 iterate 6
  apply FlowW.after
  ·intro V3 K hS hK
   obtain hS := hS.elim id id
   obtain ⟨i0, i1, i2, i3, i4, i5, i6⟩ := KC.out _ (Keeps.of_below hS)
   obtain ⟨c24, c17, c1, cR, zR⟩ := KM.out _ hS
   obtain cX := HCX.out _ hS
   go_simp
   exact hK
  simp only [lQ]
 refine FlowW.last ?_
 intro V3 K hS hK
 obtain ⟨c24, c17, c1, cR, zR⟩ := KM.out _ hS
 go_simp
 refine hK _ _ ?_
 have HM3 := Lib.hid (HM.out.next hS)
 have HB3 := Lib.hid (below_next HBel.out hS)
 clear c24 c17 c1 cR zR hS hK
 go_wp2_with fail
 exact bodyPost_ret (v := .bool true) (by simp [results, Tryz.results44, go_sem]) rfl (tried_ok HR.out ⟨⟨_, _, HM3.out.setReg d HD.out HOX.out⟩, (Keeps.of_below HB3.out).trans (HM3.out.putK (7 + d) _)⟩)
set_option maxRecDepth 8000 in
set_option maxHeartbeats 4000000 in
theorem stack_stfe {E : Env} {V : World} {m : Mach} {sv ov : Value} (h : MachAt E V m sv ov) (d : Nat) (si imm aux bank size : Int) (hd : d < 8) (hi : OkU16 imm) (hx : slotAt m (fpIdx m imm) = none) : Calls Tryz.prog 44 #[.pointer (some ⟨E.B, 0, none⟩), .agg #[.int .i64 163, .int .i64 (d : Int), .int .i64 si, .int .u16 imm, .int .u16 aux, .int .i64 bank, .int .i64 size]] V (Tried E V m sv ov (some (stM m (fpIdx m imm) d))) := by
 obtain ⟨hI, HM, HBel, -⟩ := box26 h 163 d si imm aux bank size
 have HI := Lib.hid hI
 have H := Lib.hid h
 have HD := Lib.hid hd
 have HII := Lib.hid hi
 have d0 : (0 : Int) ≤ (d : Int) := by omega
 have d1 : (d : Int) < 8 := by omega
 have HX := Lib.hid hx
 clear hx
 clear h hI hd hi
 go_enter Tryz.func44, Tryz.ntmps44
 go_upto_region 1 with (fail)
 generalize V.alloc _ = W0 at *
 have KC := kcK (base := E.base) HI.out
 clear HI
 obtain ⟨i0, i1, i2, i3, i4, i5, i6⟩ := KC.out W0 (Keeps.refl _ _)
 go_upto_region 28 with (fail)
 clear i0 i1 i2 i3 i4 i5 i6
 obtain ⟨p, cc, rfl, hcc, hp⟩ := own_slice HM.out.st
 have hlen := H.out.ok.len
 have hfp := H.out.ok.fp
 have him := HII.out
 unfold OkU16 at hfp him
 have q1 : IntKind.i64.wrap m.fp = m.fp := IntWalk.i64_in _ (by omega)
 have q2 : IntKind.i16.wrap imm = sgI imm := sgI_wrap imm him.1 him.2
 have q3b : -32768 ≤ sgI imm ∧ sgI imm < 32768 := by unfold sgI; split <;> omega
 have q3 : IntKind.i64.wrap (sgI imm) = sgI imm := IntWalk.i64_in _ (by omega)
 have q4 : IntKind.i64.wrap (m.fp + sgI imm) = fpIdx m imm := IntWalk.i64_in _ (by omega)
 clear hlen hfp him q3b
 have KM : Hid (∀ W, Below W0.heap.size W0 W → W.cell? ⟨E.B, 24, none⟩ = some (.slice p m.st.length cc) ∧ W.cell? ⟨E.B, 17, none⟩ = some (.int .u16 m.fp) ∧ W.cell? ⟨E.B, 7 + d, none⟩ = some (.int .u16 (m.R d))) := Lib.hid fun W hW => by
  have hm := HM.out.next hW
  exact ⟨hm.cell 24 _ rfl, hm.cell 17 _ rfl, hm.cell (7 + d) _ (mcells_getR E m _ ov d HD.out)⟩
 have HR : Hid (some (stM m (fpIdx m imm) d) = some (.error (5, 0))) := Lib.hid (by unfold stM; rw [HX.out])
 have HBAD : Hid (fpIdx m imm < 0 ∨ (m.st.length : Int) ≤ fpIdx m imm) := Lib.hid (slotAt_none HX.out)
 clear hcc hp
 refine wp_region_flowW (S0 := fun W => Below W0.heap.size W0 W) (S1 := fun _ => False) (Z := fun c w' => Tried E V m (.slice p m.st.length cc) ov (some (stM m (fpIdx m imm) d)) (.panicked c) w') 12 (by kernel_rfl) (by kernel_rfl) (by kernel_rfl) (Below.drew (Below.refl _ _)) (fun chain b w' hd hz => ⟨hd, hz⟩) ?_
 iterate 12
  apply FlowW.step
  ·intro V3 K hS hK
   obtain hS := hS.elim id False.elim
   obtain ⟨i0, i1, i2, i3, i4, i5, i6⟩ := KC.out _ (Keeps.of_below hS)
   obtain ⟨c24, c17, cR⟩ := KM.out _ hS
   go_simp
   exact hK
  simp only [lQ]
 refine FlowW.call (.pointer (some ⟨E.B, 1, none⟩)) rfl ?_ ?_
 ·intro V3 K hS hK
  go_simp
  go_at_call 74
  refine (slot_bad (HM.out.next hS) _ HBAD.out).mono ?_
  rintro e w9 ⟨rfl, rfl⟩
  exact ⟨_, rfl, tried_err HR.out (trapped_below H.out (below_next HBel.out hS))⟩
 simp only [lQ]
 iterate 9
  apply FlowW.after
  ·intro V3 K hS hK
   obtain hS := hS.elim id False.elim
   obtain ⟨i0, i1, i2, i3, i4, i5, i6⟩ := KC.out _ (Keeps.of_below hS)
   obtain ⟨c24, c17, cR⟩ := KM.out _ hS
   go_simp
   exact hK
  simp only [lQ]
 refine FlowW.last ?_
 intro V3 K hS hK
 exact hS.elim
set_option maxRecDepth 8000 in
set_option maxHeartbeats 4000000 in
theorem stack_stfo {E : Env} {V : World} {m : Mach} {sv ov : Value} (h : MachAt E V m sv ov) (d : Nat) (si imm aux bank size : Int) (hd : d < 8) (hi : OkU16 imm) (k : Nat) (hx : slotAt m (fpIdx m imm) = some k) : Calls Tryz.prog 44 #[.pointer (some ⟨E.B, 0, none⟩), .agg #[.int .i64 163, .int .i64 (d : Int), .int .i64 si, .int .u16 imm, .int .u16 aux, .int .i64 bank, .int .i64 size]] V (Tried E V m sv ov (some (stM m (fpIdx m imm) d))) := by
 obtain ⟨hI, HM, HBel, -⟩ := box26 h 163 d si imm aux bank size
 have HI := Lib.hid hI
 have H := Lib.hid h
 have HD := Lib.hid hd
 have HII := Lib.hid hi
 have d0 : (0 : Int) ≤ (d : Int) := by omega
 have d1 : (d : Int) < 8 := by omega
 have HX := Lib.hid hx
 clear hx
 clear h hI hd hi
 go_enter Tryz.func44, Tryz.ntmps44
 go_upto_region 1 with (fail)
 generalize V.alloc _ = W0 at *
 have KC := kcK (base := E.base) HI.out
 clear HI
 obtain ⟨i0, i1, i2, i3, i4, i5, i6⟩ := KC.out W0 (Keeps.refl _ _)
 go_upto_region 28 with (fail)
 clear i0 i1 i2 i3 i4 i5 i6
 obtain ⟨p, cc, rfl, hcc, hp⟩ := own_slice HM.out.st
 have hlen := H.out.ok.len
 have hfp := H.out.ok.fp
 have him := HII.out
 unfold OkU16 at hfp him
 have q1 : IntKind.i64.wrap m.fp = m.fp := IntWalk.i64_in _ (by omega)
 have q2 : IntKind.i16.wrap imm = sgI imm := sgI_wrap imm him.1 him.2
 have q3b : -32768 ≤ sgI imm ∧ sgI imm < 32768 := by unfold sgI; split <;> omega
 have q3 : IntKind.i64.wrap (sgI imm) = sgI imm := IntWalk.i64_in _ (by omega)
 have q4 : IntKind.i64.wrap (m.fp + sgI imm) = fpIdx m imm := IntWalk.i64_in _ (by omega)
 clear hlen hfp him q3b
 have KM : Hid (∀ W, Below W0.heap.size W0 W → W.cell? ⟨E.B, 24, none⟩ = some (.slice p m.st.length cc) ∧ W.cell? ⟨E.B, 17, none⟩ = some (.int .u16 m.fp) ∧ W.cell? ⟨E.B, 7 + d, none⟩ = some (.int .u16 (m.R d))) := Lib.hid fun W hW => by
  have hm := HM.out.next hW
  exact ⟨hm.cell 24 _ rfl, hm.cell 17 _ rfl, hm.cell (7 + d) _ (mcells_getR E m _ ov d HD.out)⟩
 have hk : fpIdx m imm = (k : Int) ∧ k < m.st.length := by
  exact slotAt_some HX.out
 obtain ⟨x, hx⟩ := at_some m.st k hk.2
 obtain ⟨g, rfl, hg, hbg, hcell⟩ := hp.resolve_left (by omega)
 have HCX : Hid (∀ W, Below W0.heap.size W0 W → W.cell? ⟨g, k, none⟩ = some (.int .u16 x) ∧ W.frozen? ⟨g, k, none⟩ = false) := Lib.hid fun W hW => ⟨(hW.cell (p := ⟨g, k, none⟩) hg).trans (hcell k _ (by rw [List.getElem?_map, hx]; rfl)).1, (hW.frozen (p := ⟨g, k, none⟩) hg).trans (hcell k _ (by rw [List.getElem?_map, hx]; rfl)).2⟩
 have HR : Hid (some (stM m (fpIdx m imm) d) = some (.ok (setSt m (m.st.set k (m.R d))))) := Lib.hid (by unfold stM; rw [HX.out])
 have HKL := Lib.hid hk.2
 have HC : Hid (∀ W, Below W0.heap.size W0 W → Calls Tryz.prog 74 #[.pointer (some ⟨E.B, 0, none⟩), .int .i64 (fpIdx m imm)] W fun e w' => e = .returned (.pointer (some ⟨g, k, none⟩)) ∧ W = w') := Lib.hid fun W hW => by
  rw [hk.1]
  refine (slot_ok (HM.out.next hW) k hk.2).mono fun e w' q => ?_
  obtain ⟨⟨g', c', e1, e2⟩, e3⟩ := q
  injection e1 with e1; injection e1 with e1; injection e1 with e1; subst e1
  exact ⟨e2, e3⟩
 clear hk hx hcell hg hbg
 refine wp_region_flowW (S0 := fun W => Below W0.heap.size W0 W) (S1 := fun W => Below W0.heap.size W0 W) (Z := fun _ _ => False) 12 (by kernel_rfl) (by kernel_rfl) (by kernel_rfl) (Below.drew (Below.refl _ _)) (fun chain b w' hd hz => hz.elim) ?_
 iterate 12
  apply FlowW.step
  ·intro V3 K hS hK
   obtain hS := hS.elim id id
   obtain ⟨i0, i1, i2, i3, i4, i5, i6⟩ := KC.out _ (Keeps.of_below hS)
   obtain ⟨c24, c17, cR⟩ := KM.out _ hS
   go_simp
   exact hK
  simp only [lQ]
 refine FlowW.call ?_ rfl ?_ ?_
 rotate_left
 ·intro V3 K hS hK
  go_simp
  go_at_call 74
  refine (HC.out _ hS).mono ?_
  rintro e w9 ⟨rfl, rfl⟩
  exact hK _ hS
 simp only [lQ]
 iterate 9
  apply FlowW.after
  ·intro V3 K hS hK
   obtain hS := hS.elim id id
   obtain ⟨i0, i1, i2, i3, i4, i5, i6⟩ := KC.out _ (Keeps.of_below hS)
   obtain ⟨c24, c17, cR⟩ := KM.out _ hS
   go_simp
   exact hK
  simp only [lQ]
 refine FlowW.last ?_
 intro V3 K hS hK
 obtain ⟨cX, zX⟩ := HCX.out _ hS
 go_simp
 refine hK _ _ ?_
 have HM3 := Lib.hid (HM.out.next hS)
 have HB3 := Lib.hid (below_next HBel.out hS)
 clear cX zX hS hK
 go_wp2_with fail
 exact bodyPost_ret (v := .bool true) (by simp [results, Tryz.results44, go_sem]) rfl (tried_ok HR.out ⟨⟨_, _, (HM3.out.pokeSt k HKL.out (H.out.ok.R d)).1⟩, (Keeps.of_below HB3.out).trans (HM3.out.pokeSt k HKL.out (H.out.ok.R d)).2⟩)
set_option maxRecDepth 8000 in
set_option maxHeartbeats 4000000 in
theorem stack_none {E : Env} {V : World} {m : Mach} {sv ov : Value} (h : MachAt E V m sv ov) (op : Int) (d : Nat) (si imm aux bank size : Int) (hd : d < 8) (hi : OkU16 imm) (hop : op ≠ 5 ∧ op ≠ 16 ∧ op ≠ 17 ∧ op ≠ 20 ∧ op ≠ 21 ∧ op ≠ 160 ∧ op ≠ 161 ∧ op ≠ 162 ∧ op ≠ 163) : Calls Tryz.prog 44 #[.pointer (some ⟨E.B, 0, none⟩), .agg #[.int .i64 op, .int .i64 (d : Int), .int .i64 si, .int .u16 imm, .int .u16 aux, .int .i64 bank, .int .i64 size]] V (Tried E V m sv ov (none)) := by
 obtain ⟨hI, HM, HBel, -⟩ := box26 h op d si imm aux bank size
 have HI := Lib.hid hI
 have H := Lib.hid h
 have HD := Lib.hid hd
 have HII := Lib.hid hi
 have d0 : (0 : Int) ≤ (d : Int) := by omega
 have d1 : (d : Int) < 8 := by omega
 have n5 : (op == 5) = false := by rw [beq_eq_false_iff_ne]; omega
 have n16 : (op == 16) = false := by rw [beq_eq_false_iff_ne]; omega
 have n17 : (op == 17) = false := by rw [beq_eq_false_iff_ne]; omega
 have n20 : (op == 20) = false := by rw [beq_eq_false_iff_ne]; omega
 have n21 : (op == 21) = false := by rw [beq_eq_false_iff_ne]; omega
 have n160 : (op == 160) = false := by rw [beq_eq_false_iff_ne]; omega
 have n161 : (op == 161) = false := by rw [beq_eq_false_iff_ne]; omega
 have n162 : (op == 162) = false := by rw [beq_eq_false_iff_ne]; omega
 have n163 : (op == 163) = false := by rw [beq_eq_false_iff_ne]; omega
 clear hop
 clear h hI hd hi
 go_enter Tryz.func44, Tryz.ntmps44
 go_upto_region 1 with (fail)
 generalize V.alloc _ = W0 at *
 have KC := kcK (base := E.base) HI.out
 clear HI
 obtain ⟨i0, i1, i2, i3, i4, i5, i6⟩ := KC.out W0 (Keeps.refl _ _)
 go_wp2_with fail
 exact bodyPost_ret (v := .bool false) (by simp [results, Tryz.results44, go_sem]) rfl (tried_none rfl HBel.out)
def stackM (m : Mach) (i : InsI) (d : Nat) : Option (Except (Int × Int) Mach) :=
 if i.op = 16 then some (pushM m (m.R d)) else if i.op = 17 then some (popM m d) else if i.op = 20 then some (enterM m i.imm) else if i.op = 5 then some (leaveM m)
 else if i.op = 21 then some (dropM m i.imm) else if i.op = 160 then some (ldM m (spIdx m i.imm) d) else if i.op = 161 then some (stM m (spIdx m i.imm) d)
 else if i.op = 162 then some (ldM m (fpIdx m i.imm) d) else if i.op = 163 then some (stM m (fpIdx m i.imm) d) else none
theorem stack_any {E : Env} {V : World} {m : Mach} {sv ov : Value} (h : MachAt E V m sv ov) (i : InsI) (d : Nat) (hid : i.d = d) (hd : d < 8) (hi : OkU16 i.imm) : Calls Tryz.prog 44 #[.pointer (some ⟨E.B, 0, none⟩), .agg #[.int .i64 i.op, .int .i64 i.d, .int .i64 i.s, .int .u16 i.imm, .int .u16 i.aux, .int .i64 i.bank, .int .i64 i.size]] V (Tried E V m sv ov (stackM m i d)) := by
 obtain ⟨op, di, si, imm, aux, bank, size⟩ := i
 dsimp only at hid hi ⊢
 subst hid
 by_cases hn : op ≠ 5 ∧ op ≠ 16 ∧ op ≠ 17 ∧ op ≠ 20 ∧ op ≠ 21 ∧ op ≠ 160 ∧ op ≠ 161 ∧ op ≠ 162 ∧ op ≠ 163
 ·have hz : stackM m ⟨op, d, si, imm, aux, bank, size⟩ d = none := by
   unfold stackM
   rw [if_neg (by dsimp only; omega), if_neg (by dsimp only; omega), if_neg (by dsimp only; omega), if_neg (by dsimp only; omega), if_neg (by dsimp only; omega), if_neg (by dsimp only; omega), if_neg (by dsimp only; omega), if_neg (by dsimp only; omega), if_neg (by dsimp only; omega)]
  rw [hz]
  exact stack_none h op d si imm aux bank size hd hi hn
 rcases (show op = 5 ∨ op = 16 ∨ op = 17 ∨ op = 20 ∨ op = 21 ∨ op = 160 ∨ op = 161 ∨ op = 162 ∨ op = 163 by omega) with rfl | rfl | rfl | rfl | rfl | rfl | rfl | rfl | rfl
 ·by_cases hx : m.fp = 0 ∨ (m.st.length : Int) < m.fp
  ·exact stack_leavee h d si imm aux bank size hd hi hx
  ·have := h.ok.fp
   unfold OkU16 at this
   exact stack_leaveo h d si imm aux bank size hd hi (m.fp - 1).toNat ⟨by omega, by omega⟩
 ·exact stack_push h d si imm aux bank size hd hi
 ·rcases List.eq_nil_or_concat m.st with hx | ⟨l, x, hx⟩
  ·exact stack_pope h d si imm aux bank size hd hi hx
  ·exact stack_popo h d si imm aux bank size hd hi l x (by simpa using hx)
 ·exact stack_enter h d si imm aux bank size hd hi
 ·exact stack_drop h d si imm aux bank size hd hi
 ·cases hx : slotAt m (spIdx m imm) with
  | none => exact stack_ldse h d si imm aux bank size hd hi hx
  | some k => exact stack_ldso h d si imm aux bank size hd hi k hx
 ·cases hx : slotAt m (spIdx m imm) with
  | none => exact stack_stse h d si imm aux bank size hd hi hx
  | some k => exact stack_stso h d si imm aux bank size hd hi k hx
 ·cases hx : slotAt m (fpIdx m imm) with
  | none => exact stack_ldfe h d si imm aux bank size hd hi hx
  | some k => exact stack_ldfo h d si imm aux bank size hd hi k hx
 ·cases hx : slotAt m (fpIdx m imm) with
  | none => exact stack_stfe h d si imm aux bank size hd hi hx
  | some k => exact stack_stfo h d si imm aux bank size hd hi k hx
end Go.Proofs.YtieaicdihingkaaGreat
