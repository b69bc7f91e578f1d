/- poll: an element of Irq, and the call of the handler. -/
import Derived.Test.YtieaicdihingkaaGreatK13
namespace Go.Proofs.YtieaicdihingkaaGreat
set_option linter.unusedVariables false
set_option linter.unusedSimpArgs false
open Go.RowKit
def regL (m : Mach) : List Int := [m.R 0, m.R 1, m.R 2, m.R 3, m.R 4, m.R 5, m.R 6, m.R 7]
def pollL (m : Mach) : List Int := m.st ++ [m.bank % 65536, m.pc, m.f, m.fp] ++ regL m
def polled (m : Mach) : Mach := { m with polls := max m.polls 0 + 1 }
def pollM (E : Env) (m : Mach) : Except (Int × Int) Mach :=
 match E.tirq[(max m.polls 0).toNat]? with
 | none => .ok m
 | some q => if q = 0 ∨ E.vector = 0 then .ok (polled m) else if m.st.length + 12 ≤ 4096 then .ok { setSt (polled m) (pollL m) with pc := E.vector } else .error (5, 0)
theorem src_regs {E : Env} {V : World} {m : Mach} {sv ov : Value} (h : MachAt E V m sv ov) : Src E V (some ⟨E.B, 7, none⟩) E.B 7 (regL m) := by
 refine ⟨.inr rfl, fun k x hk => ?_, h.lt, fun _ => by unfold regL; simp, fun x hx => ?_⟩
 ·have hk8 : k < 8 := by have := (List.getElem?_eq_some_iff.1 hk).1; simpa [regL] using this
  have hx : (regL m)[k]? = some (m.R k) := by
   match k, hk8 with
   | 0, _ => rfl
   | 1, _ => rfl
   | 2, _ => rfl
   | 3, _ => rfl
   | 4, _ => rfl
   | 5, _ => rfl
   | 6, _ => rfl
   | 7, _ => rfl
  rw [hx] at hk
  cases hk
  exact h.cell (7 + k) _ (mcells_getR E m sv ov k hk8)
 ·simp only [regL, List.mem_cons, List.not_mem_nil, or_false] at hx
  rcases hx with rfl | rfl | rfl | rfl | rfl | rfl | rfl | rfl <;> exact h.ok.R _
set_option maxRecDepth 8000 in
set_option maxHeartbeats 4000000 in
theorem poll_none {E : Env} {V : World} {m : Mach} {sv ov : Value} (h : MachAt E V m sv ov) (hq : E.tirq[(max m.polls 0).toNat]? = none) : Calls Tryz.prog 38 #[.pointer (some ⟨E.B, 0, none⟩)] V (Done E V m sv ov (pollM E m)) := by
 have H := Lib.hid h
 have HR : Hid (pollM E m = .ok m) := Lib.hid (by unfold pollM; rw [hq])
 have c22 := h.cell 22 _ rfl
 have c6 := h.cell 6 _ rfl
 clear h
 by_cases hneg : m.polls < 0
 ·have b1 : E.tirq = [] := List.eq_nil_of_length_eq_zero (by have := List.getElem?_eq_none_iff.1 hq; omega)
  clear hq
  go_enter Tryz.func38, Tryz.ntmps38
  go_wp2_with fail
  exact ends (v := .tuple #[]) (by simp [results, Tryz.results38]) rfl (done_ok HR.out ⟨⟨_, _, H.out⟩, Keeps.refl _ _⟩)
 ·have b1 : decide ((E.tirq.length : Int) ≤ m.polls) = true := decide_eq_true (by have := List.getElem?_eq_none_iff.1 hq; omega)
  clear hq
  go_enter Tryz.func38, Tryz.ntmps38
  go_wp2_with fail
  exact ends (v := .tuple #[]) (by simp [results, Tryz.results38]) rfl (done_ok HR.out ⟨⟨_, _, H.out⟩, Keeps.refl _ _⟩)
structure PollIn (E : Env) (V : World) (m : Mach) (k : Nat) (q : Int) (TB off : Nat) : Prop where
 eq : max m.polls 0 = (k : Int)
 lt : k < E.tirq.length
 ptr : E.pirq = some ⟨TB, off, none⟩
 low : TB < E.base
 cell : V.cell? ⟨TB, off + k, none⟩ = some (.int .u8 q)
 get : E.tirq[(max m.polls 0).toNat]? = some q
theorem poll_in {E : Env} {V : World} {m : Mach} {sv ov : Value} (h : MachAt E V m sv ov) {q : Int} (hq : E.tirq[(max m.polls 0).toNat]? = some q) : ∃ k TB off, PollIn E V m k q TB off := by
 obtain ⟨B, off, e1, e2, e3⟩ := h.irq _ _ hq
 exact ⟨_, B, off, by omega, (List.getElem?_eq_some_iff.1 hq).1, e1, e2, e3, hq⟩
set_option maxRecDepth 8000 in
set_option maxHeartbeats 4000000 in
theorem poll_zeroB {E : Env} {V : World} {m : Mach} {sv ov : Value} (h : MachAt E V m sv ov) {k TB off : Nat} {q : Int} (hp : PollIn E V m k q TB off) (h0 : q = 0) : Calls Tryz.prog 38 #[.pointer (some ⟨E.B, 0, none⟩)] V (Done E V m sv ov (pollM E m)) := by
 have mA : (if m.polls < 0 then (0 : Int) else m.polls) = (k : Int) := by have := hp.eq; split <;> omega
 have H := Lib.hid h
 have HP := Lib.hid hp
 have hL := h.env.tirq
 have HL := Lib.hid hL
 unfold maxLen at hL
 have e0 : max m.polls 0 = (k : Int) := hp.eq
 have b1 : decide ((E.tirq.length : Int) ≤ (k : Int)) = false := decide_eq_false (by have := hp.lt; omega)
 have b2 : decide (E.tirq.length ≤ k) = false := decide_eq_false (by have := hp.lt; omega)
 have k0 : (0 : Int) ≤ (k : Int) := by omega
 have k1 : (k : Int) < (E.tirq.length : Int) := by have := hp.lt; omega
 have q1 : IntKind.i64.wrap ((k : Int) + 1) = ((k : Int) + 1) := IntWalk.i64_in _ (by omega)
 have c22 : V.cell? ⟨E.B, 22, none⟩ = some (.int .i64 m.polls) := by
  have h9 := h.cell 22 _ rfl
  exact h9
 have z22 := h.frz 22
 have c6 := h.cell 6 _ rfl
 have HM : Hid (MachAt E (V.setCell ⟨E.B, 22, none⟩ (.int .i64 ((k : Int) + 1))) (polled m) sv ov) := Lib.hid (by
  have h9 := h.setPolls (x := max m.polls 0 + 1) (by rw [e0]; unfold OkI64; omega)
  have e9 : max m.polls 0 + 1 = ((k : Int) + 1) := by omega
  rw [e9] at h9
  have e8 : ({ m with polls := ((k : Int) + 1) } : Mach) = polled m := by unfold polled; rw [e9]
  rw [e8] at h9
  exact h9)
 have HK := Lib.hid (h.putK 22 (.int .i64 ((k : Int) + 1)))
 have HSV : Hid (Saves E V (V.setCell ⟨E.B, 22, none⟩ (.int .i64 ((k : Int) + 1))) m.st.length) := Lib.hid (Saves.set h 22 _ m.st.length)
 have HR : Hid (pollM E m = .ok (polled m)) := Lib.hid (by unfold pollM; rw [hp.get]; exact if_pos (.inl h0))
 subst h0
 clear h hp hL
 go_enter Tryz.func38, Tryz.ntmps38
 go_upto_region 3 with (fail)
 generalize V.setCell _ _ = W1 at *
 clear c22 z22 c6 b1 b2 mA
 have c6 := HM.out.cell 6 _ rfl
 have c2 := HM.out.cell 2 _ rfl
 have eP := HP.out.ptr
 have cT := low_keeps HK.out HP.out.low HP.out.cell
 go_wp2_with fail
 exact ends (v := .tuple #[]) (by simp [results, Tryz.results38]) rfl (done_ok HR.out ⟨⟨_, _, HM.out⟩, HK.out⟩)
set_option maxRecDepth 8000 in
set_option maxHeartbeats 4000000 in
theorem poll_novecB {E : Env} {V : World} {m : Mach} {sv ov : Value} (h : MachAt E V m sv ov) {k TB off : Nat} {q : Int} (hp : PollIn E V m k q TB off) (h0 : q ≠ 0) (hv : E.vector = 0) : Calls Tryz.prog 38 #[.pointer (some ⟨E.B, 0, none⟩)] V (Done E V m sv ov (pollM E m)) := by
 have mA : (if m.polls < 0 then (0 : Int) else m.polls) = (k : Int) := by have := hp.eq; split <;> omega
 have H := Lib.hid h
 have HP := Lib.hid hp
 have hL := h.env.tirq
 have HL := Lib.hid hL
 unfold maxLen at hL
 have e0 : max m.polls 0 = (k : Int) := hp.eq
 have b1 : decide ((E.tirq.length : Int) ≤ (k : Int)) = false := decide_eq_false (by have := hp.lt; omega)
 have b2 : decide (E.tirq.length ≤ k) = false := decide_eq_false (by have := hp.lt; omega)
 have k0 : (0 : Int) ≤ (k : Int) := by omega
 have k1 : (k : Int) < (E.tirq.length : Int) := by have := hp.lt; omega
 have q1 : IntKind.i64.wrap ((k : Int) + 1) = ((k : Int) + 1) := IntWalk.i64_in _ (by omega)
 have c22 : V.cell? ⟨E.B, 22, none⟩ = some (.int .i64 m.polls) := by
  have h9 := h.cell 22 _ rfl
  exact h9
 have z22 := h.frz 22
 have c6 := h.cell 6 _ rfl
 have HM : Hid (MachAt E (V.setCell ⟨E.B, 22, none⟩ (.int .i64 ((k : Int) + 1))) (polled m) sv ov) := Lib.hid (by
  have h9 := h.setPolls (x := max m.polls 0 + 1) (by rw [e0]; unfold OkI64; omega)
  have e9 : max m.polls 0 + 1 = ((k : Int) + 1) := by omega
  rw [e9] at h9
  have e8 : ({ m with polls := ((k : Int) + 1) } : Mach) = polled m := by unfold polled; rw [e9]
  rw [e8] at h9
  exact h9)
 have HK := Lib.hid (h.putK 22 (.int .i64 ((k : Int) + 1)))
 have HSV : Hid (Saves E V (V.setCell ⟨E.B, 22, none⟩ (.int .i64 ((k : Int) + 1))) m.st.length) := Lib.hid (Saves.set h 22 _ m.st.length)
 have HR : Hid (pollM E m = .ok (polled m)) := Lib.hid (by unfold pollM; rw [hp.get]; exact if_pos (.inr hv))
 have e1 : (q == 0) = false := by rw [beq_eq_false_iff_ne]; exact h0
 have e2 : (E.vector == 0) = true := by rw [beq_iff_eq]; exact hv
 clear h0 hv
 clear h hp hL
 go_enter Tryz.func38, Tryz.ntmps38
 go_upto_region 3 with (fail)
 generalize V.setCell _ _ = W1 at *
 clear c22 z22 c6 b1 b2 mA
 have c6 := HM.out.cell 6 _ rfl
 have c2 := HM.out.cell 2 _ rfl
 have eP := HP.out.ptr
 have cT := low_keeps HK.out HP.out.low HP.out.cell
 go_wp2_with fail
 exact ends (v := .tuple #[]) (by simp [results, Tryz.results38]) rfl (done_ok HR.out ⟨⟨_, _, HM.out⟩, HK.out⟩)
set_option maxRecDepth 8000 in
set_option maxHeartbeats 4000000 in
theorem poll_pushB {E : Env} {V : World} {m : Mach} {sv ov : Value} (h : MachAt E V m sv ov) {k TB off : Nat} {q : Int} (hp : PollIn E V m k q TB off) (h0 : q ≠ 0) (hv : E.vector ≠ 0) : Calls Tryz.prog 38 #[.pointer (some ⟨E.B, 0, none⟩)] V (Done E V m sv ov (pollM E m)) := by
 have mA : (if m.polls < 0 then (0 : Int) else m.polls) = (k : Int) := by have := hp.eq; split <;> omega
 have H := Lib.hid h
 have HP := Lib.hid hp
 have hL := h.env.tirq
 have HL := Lib.hid hL
 unfold maxLen at hL
 have e0 : max m.polls 0 = (k : Int) := hp.eq
 have b1 : decide ((E.tirq.length : Int) ≤ (k : Int)) = false := decide_eq_false (by have := hp.lt; omega)
 have b2 : decide (E.tirq.length ≤ k) = false := decide_eq_false (by have := hp.lt; omega)
 have k0 : (0 : Int) ≤ (k : Int) := by omega
 have k1 : (k : Int) < (E.tirq.length : Int) := by have := hp.lt; omega
 have q1 : IntKind.i64.wrap ((k : Int) + 1) = ((k : Int) + 1) := IntWalk.i64_in _ (by omega)
 have c22 : V.cell? ⟨E.B, 22, none⟩ = some (.int .i64 m.polls) := by
  have h9 := h.cell 22 _ rfl
  exact h9
 have z22 := h.frz 22
 have c6 := h.cell 6 _ rfl
 have HM : Hid (MachAt E (V.setCell ⟨E.B, 22, none⟩ (.int .i64 ((k : Int) + 1))) (polled m) sv ov) := Lib.hid (by
  have h9 := h.setPolls (x := max m.polls 0 + 1) (by rw [e0]; unfold OkI64; omega)
  have e9 : max m.polls 0 + 1 = ((k : Int) + 1) := by omega
  rw [e9] at h9
  have e8 : ({ m with polls := ((k : Int) + 1) } : Mach) = polled m := by unfold polled; rw [e9]
  rw [e8] at h9
  exact h9)
 have HK := Lib.hid (h.putK 22 (.int .i64 ((k : Int) + 1)))
 have HSV : Hid (Saves E V (V.setCell ⟨E.B, 22, none⟩ (.int .i64 ((k : Int) + 1))) m.st.length) := Lib.hid (Saves.set h 22 _ m.st.length)
 have HR0 : Hid (pollM E m = if m.st.length + 12 ≤ 4096 then .ok { setSt (polled m) (pollL m) with pc := E.vector } else .error (5, 0)) := Lib.hid (by unfold pollM; rw [hp.get]; exact if_neg (fun q => q.elim h0 hv))
 have e1 : (q == 0) = false := by rw [beq_eq_false_iff_ne]; exact h0
 have e2 : (E.vector == 0) = false := by rw [beq_eq_false_iff_ne]; exact hv
 clear h0 hv
 clear h hp hL
 go_enter Tryz.func38, Tryz.ntmps38
 go_upto_region 3 with (fail)
 generalize V.setCell _ _ = W1 at *
 clear c22 z22 c6 b1 b2 mA
 have c6 := HM.out.cell 6 _ rfl
 have c2 := HM.out.cell 2 _ rfl
 have eP := HP.out.ptr
 have cT := low_keeps HK.out HP.out.low HP.out.cell
 have hw : IntKind.u16.wrap m.bank = m.bank % 65536 := by rw [IntKind.wrap_u16]
 go_upto_region 4 with (fail)
 clear c6 c2 cT e1 e2 eP e0 k0 k1 q1
 refine' wp_region_flowR [[], [], [(41, 1)], [(42, 2)], [(43, 3)], [(44, 4)], [(45, 5)], [], [(47, 7)], [(48, 8)], [(49, 9)], [(50, 10)], [], [(52, 12)], [(53, 13)], [(54, 14)], [(55, 15)], [], [(57, 17)], [(58, 18)], [(59, 19)], [(60, 20)], [(46, 6), (51, 11), (56, 16), (61, 21)], [(40, 0), (41, 1), (42, 2), (43, 3), (44, 4), (45, 5), (46, 6), (47, 7), (48, 8), (49, 9), (50, 10), (51, 11), (52, 12), (53, 13), (54, 14), (55, 15), (56, 16), (57, 17), (58, 18), (59, 19), (60, 20), (61, 21), (62, 22)]] (relL [eqV _, eqV _, eqV _, eqV _, eqV _, eqV _, eqV _, eqV _, eqV _, eqV _, eqV _, eqV _, eqV _, eqV _, eqV _, eqV _, eqV _, eqV _, eqV _, eqV _, eqV _, eqV _, slTo (Obj.cells #[.int .u16 (m.bank % 65536), .int .u16 m.pc, .int .u16 m.f, .int .u16 m.fp] 22) 4 W1]) (by kernel_rfl) (by kernel_rfl) ?_
 rotate_left 22
 iterate 22
  refine FlowR.step ?_ ?_
  ·intro V3 hV
   simp only [Dep, lQ]
   repeat rintro _ ⟨_, rfl, _⟩
   intro K hK
   obtain c19 := (HM.out.next hV).cell 19 _ rfl
   obtain c15 := (HM.out.next hV).cell 15 _ rfl
   obtain c18 := (HM.out.next hV).cell 18 _ rfl
   obtain c17 := (HM.out.next hV).cell 17 _ rfl
   go_simp
   refine hK _ _ ?_ (Below.refl _ _)
   simp only [lR]
   exact rfl
 refine FlowR.step ?_ ?_
 ·intro V3 hV
  simp only [Dep, lQ]
  rintro x46 ⟨V46, rfl, hb46⟩
  rintro x51 ⟨V51, rfl, hb51⟩
  rintro x56 ⟨V56, rfl, hb56⟩
  rintro x61 ⟨V61, rfl, hb61⟩
  intro K hK
  go_simp
  exact hK _ _ (sl_at hV) (below1 _ _)
 refine FlowR.last ?_
 intro V3 hV
 simp only [Dep, lQ]
 rintro x40 ⟨V40, rfl, hb40⟩
 rintro x41 ⟨V41, rfl, hb41⟩
 rintro x42 ⟨V42, rfl, hb42⟩
 rintro x43 ⟨V43, rfl, hb43⟩
 rintro x44 ⟨V44, rfl, hb44⟩
 rintro x45 ⟨V45, rfl, hb45⟩
 rintro x46 ⟨V46, rfl, hb46⟩
 rintro x47 ⟨V47, rfl, hb47⟩
 rintro x48 ⟨V48, rfl, hb48⟩
 rintro x49 ⟨V49, rfl, hb49⟩
 rintro x50 ⟨V50, rfl, hb50⟩
 rintro x51 ⟨V51, rfl, hb51⟩
 rintro x52 ⟨V52, rfl, hb52⟩
 rintro x53 ⟨V53, rfl, hb53⟩
 rintro x54 ⟨V54, rfl, hb54⟩
 rintro x55 ⟨V55, rfl, hb55⟩
 rintro x56 ⟨V56, rfl, hb56⟩
 rintro x57 ⟨V57, rfl, hb57⟩
 rintro x58 ⟨V58, rfl, hb58⟩
 rintro x59 ⟨V59, rfl, hb59⟩
 rintro x60 ⟨V60, rfl, hb60⟩
 rintro x61 ⟨V61, rfl, hb61⟩
 rintro x62 ⟨V62, ⟨W9, rfl, rfl, hb9⟩, hb62⟩
 intro K hK
 go_simp
 go_at_call 66
 obtain ⟨hsrc, hne⟩ := src_row (l := [m.bank % 65536, m.pc, m.f, m.fp]) HM.out hb9 hb62 rfl (by intro x hx; simp at hx; rcases hx with rfl | rfl | rfl | rfl; (unfold OkU16; omega); exact H.out.ok.pc; exact H.out.ok.f; exact H.out.ok.fp)
 refine (push_any (HM.out.next hV) _ _ _ _ [m.bank % 65536, m.pc, m.f, m.fp] hsrc hne (by simp)).mono ?_
 rintro e w9 (⟨hle, rfl, sv', hm', hk', hs', _⟩ | ⟨hle, rfl, ht, hs'⟩)
 rotate_left
 ·exact ⟨rfl, done_err (by rw [HR0.out]; rw [if_neg (by have : ¬ m.st.length + 4 ≤ 4096 := hle; omega)]) ⟨ht.at', ht.st, (HK.out.trans (Keeps.of_below hV)).trans ht.keeps⟩⟩
 have HM1 : Hid (MachAt E w9 (setSt (polled m) (m.st ++ [m.bank % 65536, m.pc, m.f, m.fp])) sv' ov) := Lib.hid hm'
 have HK1 := Lib.hid ((HK.out.trans (Keeps.of_below hV)).trans hk')
 have HS1 : Hid (Saves E V w9 m.st.length) := Lib.hid ((HSV.out.trans (Saves.of_below hV m.st.length) (Nat.le_refl _)).trans hs' (Nat.le_refl _))
 clear hm' hk' hs' hsrc hne hle hb9 hb62
 refine hK _ _ ?_
 clear hK hV hw
 go_wp2_with fail
 have hsr := src_regs HM1.out
 refine (push_any HM1.out _ _ _ _ (regL m) hsr (fun h => absurd rfl h) (by simp [regL])).mono ?_
 rintro e w8 (⟨hle, rfl, sv2, hm', hk', hs', _⟩ | ⟨hle, rfl, ht, hs'⟩)
 rotate_left
 ·have hl8 : (regL m).length = 8 := rfl
  have hl4 : (setSt (polled m) (m.st ++ [m.bank % 65536, m.pc, m.f, m.fp])).st.length = m.st.length + 4 := by simp [setSt]
  refine panics rfl (done_err (by rw [HR0.out]; rw [if_neg (by rw [hl8, hl4] at hle; omega)]) ?_)
  obtain ⟨m9, sv9, hm9, hr9, ho9⟩ := ht.at'
  exact Trapped.mk' hm9 hr9 ho9 (hs' _ _ _ (by rw [hl4]; omega) (HS1.out _ _ _ (Nat.le_refl _) H.out.st)) (HK1.out.trans ht.keeps)
 have hl8 : (regL m).length = 8 := rfl
 have hl4 : (setSt (polled m) (m.st ++ [m.bank % 65536, m.pc, m.f, m.fp])).st.length = m.st.length + 4 := by simp [setSt]
 have HR : Hid (pollM E m = .ok { setSt (polled m) (pollL m) with pc := E.vector }) := Lib.hid (by rw [HR0.out]; exact if_pos (by rw [hl8, hl4] at hle; omega))
 have HM2 : Hid (MachAt E w8 (setSt (polled m) (pollL m)) sv2 ov) := Lib.hid hm'
 have HK2 := Lib.hid (HK1.out.trans hk')
 clear hm' hk' hs' hle hl8 hl4
 have c2 := HM2.out.cell 2 _ rfl
 have c15 := HM2.out.cell 15 _ rfl
 have z15 := HM2.out.frz 15
 go_wp2_with fail
 exact ends (v := .tuple #[]) (by simp [results, Tryz.results38]) rfl (done_ok HR.out ⟨⟨_, _, HM2.out.setPc HM2.out.env.vector⟩, HK2.out.trans (HM2.out.putK 15 _)⟩)
theorem poll_any {E : Env} {V : World} {m : Mach} {sv ov : Value} (h : MachAt E V m sv ov) : Calls Tryz.prog 38 #[.pointer (some ⟨E.B, 0, none⟩)] V (Done E V m sv ov (pollM E m)) := by
 cases hq : E.tirq[(max m.polls 0).toNat]? with
 | none => exact poll_none h hq
 | some q =>
  obtain ⟨k, TB, off, hp⟩ := poll_in h hq
  by_cases h0 : q = 0
  ·exact poll_zeroB h hp h0
  ·by_cases hv : E.vector = 0
   ·exact poll_novecB h hp h0 hv
   ·exact poll_pushB h hp h0 hv
end Go.Proofs.YtieaicdihingkaaGreat
