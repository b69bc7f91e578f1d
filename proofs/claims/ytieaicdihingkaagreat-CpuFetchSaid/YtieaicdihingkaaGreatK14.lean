/- control: the instructions that change PC. -/
import Derived.Test.YtieaicdihingkaaGreatK13
namespace Go.Proofs.YtieaicdihingkaaGreat
set_option linter.unusedVariables false
set_option linter.unusedSimpArgs false
open Go.RowKit
/-- A pop of a stack that was cut to its first words. -/
theorem pop_take {E : Env} {W : World} {m1 : Mach} {sv1 ov : Value} (L : List Int) (k : Nat) (h : MachAt E W m1 sv1 ov) (hs : m1.st = L.take (L.length - k)) (hk : k ≤ L.length) :
  Calls Tryz.prog 73 #[.pointer (some ⟨E.B, 0, none⟩)] W fun e w' => (k = L.length ∧ e = .panicked [{ v := .iface 65 (.agg #[.int .i64 5, .int .u16 0]), recovered := false }] ∧ W = w') ∨
   (∃ x sv', k < L.length ∧ L[L.length - (k + 1)]? = some x ∧ OkU16 x ∧ e = .returned (.int .u16 x) ∧ MachAt E w' (setSt m1 (L.take (L.length - (k + 1)))) sv' ov ∧ w' = W.setCell ⟨E.B, 24, none⟩ sv') :=
 (pop_any h).mono fun e w' q => by
  rcases q with ⟨e1, e2, e3⟩ | ⟨l, x, sv', e1, e2, hm', hw⟩
  ·refine .inl ⟨?_, e2, e3⟩
   have := congrArg List.length (hs.symm.trans e1)
   rw [List.length_take] at this
   simp at this
   omega
  ·have he := hs.symm.trans e1
   have hlen := congrArg List.length he
   rw [List.length_take] at hlen
   simp at hlen
   refine .inr ⟨x, sv', by omega, ?_, ?_, e2, ?_, hw⟩
   ·have := congrArg (fun q => q[l.length]?) he
    simp only [List.getElem?_concat_length] at this
    rw [List.getElem?_take] at this
    split at this
    ·rw [show L.length - (k + 1) = l.length by omega]; exact this
    ·cases this
   ·exact h.ok.st x (by rw [e1]; simp)
   ·have hl : l = L.take (L.length - (k + 1)) := by
     have := congrArg List.dropLast he
     rw [List.dropLast_concat] at this
     rw [← this, List.dropLast_eq_take, List.take_take, List.length_take]
     congr 1
     omega
    rw [← hl]
    exact hm'
def nth (m : Mach) (k : Nat) : Int := (m.st[m.st.length - k]?).getD 0
def retM (m : Mach) : Except (Int × Int) Mach :=
 if 2 ≤ m.st.length then .ok { setSt m (m.st.take (m.st.length - 2)) with pc := nth m 1, bank := nth m 2 % 64 } else .error (5, 0)
def regsI (m : Mach) (n : Nat) : Nat → Int := fun i => if 8 ≤ i + n ∧ i < 8 then (m.st[m.st.length + i - 8]?).getD 0 else m.R i
def popsR (m : Mach) (n : Nat) : Mach := { setSt m (m.st.take (m.st.length - n)) with R := regsI m n }
theorem regsI_step (m : Mach) (n k : Nat) (hk : k + n = 7) (x : Int) (hx : m.st[m.st.length - (n + 1)]? = some x) (hn : n < m.st.length) : setR (regsI m n) k x = regsI m (n + 1) := by
 funext i
 unfold setR regsI
 by_cases e : i = k
 ·subst e
  rw [if_pos rfl, if_pos (by omega), show m.st.length + i - 8 = m.st.length - (n + 1) by omega, hx]
  rfl
 ·rw [if_neg e]
  by_cases g : 8 ≤ i + n ∧ i < 8
  ·rw [if_pos g, if_pos (by omega)]
  ·rw [if_neg g, if_neg (by omega)]
def iretM (m : Mach) : Except (Int × Int) Mach :=
 if 12 ≤ m.st.length then .ok { setSt m (m.st.take (m.st.length - 12)) with R := regsI m 8, fp := nth m 9, f := nth m 10 % 16, pc := nth m 11, bank := nth m 12 % 64 } else .error (5, 0)
def addPc (m : Mach) (x : Int) : Mach := { m with pc := (m.pc + x) % 65536 }
def push2M (m : Mach) : Except (Int × Int) Mach := if m.st.length + 2 ≤ 4096 then .ok (setSt m (m.st ++ [m.bank % 65536, m.pc])) else .error (5, 0)
def callM (m : Mach) (imm : Int) : Except (Int × Int) Mach := match push2M m with | .ok m1 => .ok (addPc m1 imm) | .error t => .error t
def callfM (m : Mach) (i : InsI) : Except (Int × Int) Mach := match push2M m with | .ok m1 => .ok (farM m1 i) | .error t => .error t
def jtabM (E : Env) (m : Mach) (d : Nat) (imm aux bank : Int) : Except (Int × Int) Mach := if m.R d < bank then tableM E (addPc m imm) ((aux + (2 * m.R d) % 65536) % 65536) else .ok (addPc m imm)
def jmpiM (E : Env) (m : Mach) (d : Nat) (imm : Int) : Except (Int × Int) Mach := tableM E m ((imm + (2 * m.R d) % 65536) % 65536)
def jccM (m : Mach) (op imm : Int) : Except (Int × Int) Mach := if condI (op % 16) m.f = true then .ok (addPc m imm) else .ok m
theorem nth_some {m : Mach} {k : Nat} {x : Int} (h : m.st[m.st.length - k]? = some x) : nth m k = x := by unfold nth; rw [h]; rfl
set_option maxRecDepth 8000 in
set_option maxHeartbeats 4000000 in
theorem ctl_ret {E : Env} {V : World} {m : Mach} {sv ov : Value} (h : MachAt E V m sv ov) (d : Nat) (si imm aux bank size : Int) (hd : d < 8) (hi : OkU16 imm) (ha : OkU16 aux) (hb : OkI64 bank) : Calls Tryz.prog 45 #[.pointer (some ⟨E.B, 0, none⟩), .agg #[.int .i64 1, .int .i64 (d : Int), .int .i64 si, .int .u16 imm, .int .u16 aux, .int .i64 bank, .int .i64 size]] V (Tried E V m sv ov (some (retM m))) := by
 obtain ⟨hI, HM, HBel, -⟩ := box26 h 1 d si imm aux bank size
 have HI := Lib.hid hI
 have H := Lib.hid h
 have HD := Lib.hid hd
 have HII := Lib.hid hi
 have HAX := Lib.hid ha
 have HBK := Lib.hid hb
 have d0 : (0 : Int) ≤ (d : Int) := by omega
 have d1 : (d : Int) < 8 := by omega
 clear h hI hd hi ha hb
 go_enter Tryz.func45, Tryz.ntmps45
 go_upto_region 1 with (fail)
 generalize V.alloc _ = W0 at *
 have KC := kcK (base := E.base) HI.out
 clear HI
 obtain ⟨i0, i1, i2, i3, i4, i5, i6⟩ := KC.out W0 (Keeps.refl _ _)
 have c15 := HM.out.cell 15 _ rfl
 have HK0 : Hid (Keeps E.base W0 W0) := Lib.hid (Keeps.refl _ _)
 have HS0 : Hid (Saves E W0 W0 m.st.length) := Lib.hid (fun _ _ _ _ h => h)
 have HM0 : Hid (MachAt E W0 (setSt m (m.st.take (m.st.length - 0))) sv ov) := Lib.hid (by rw [Nat.sub_zero, List.take_length]; exact HM.out)
 go_wp2_with fail
 clear i0 i1 i2 i3 i4 i5 i6 c15
 refine (pop_take m.st 0 HM0.out rfl (by omega)).mono ?_
 rintro e w9 (⟨hkl, rfl, rfl⟩ | ⟨x0, sv0, hkl0, hx0, hox, rfl, hm1, hw1⟩)
 ·exact panics (fn := Tryz.f45) rfl (tried_err (by unfold retM; rw [if_neg (by omega)]) (Trapped.mk' HM0.out rfl rfl (HS0.out _ _ _ (Nat.le_refl _) HM.out.st) ((Keeps.of_below HBel.out).trans HK0.out)))
 have HX0 := Lib.hid (nth_some (m := m) hx0)
 have HO0 := Lib.hid hox
 have HN0 := Lib.hid hm1
 have HKN0 := Lib.hid (HK0.out.trans (hw1 ▸ HM0.out.putK 24 sv0))
 have HSN0 := Lib.hid (HS0.out.trans (hw1 ▸ Saves.set HM0.out 24 sv0 m.st.length) (Nat.le_refl _))
 have cc := hm1.cell 15 _ rfl
 have zz := hm1.frz 15
 clear hm1 hw1 hx0 hox
 go_upto_region 9 with (fail)
 have HM1 := Lib.hid (HN0.out.setPc HO0.out)
 have HK1 := Lib.hid (HKN0.out.trans (HN0.out.putK 15 (.int .u16 x0)))
 have HS1 := Lib.hid (HSN0.out.trans (Saves.set HN0.out 15 (.int .u16 x0) m.st.length) (Nat.le_refl _))
 clear cc zz
 generalize w9.setCell _ _ = W2 at *
 go_wp2_with fail
 refine (pop_take m.st 1 HM1.out rfl (by omega)).mono ?_
 rintro e w8 (⟨hkl, rfl, rfl⟩ | ⟨x1, sv1, hkl1, hx1, hox, rfl, hm1, hw1⟩)
 ·exact panics (fn := Tryz.f45) rfl (tried_err (by unfold retM; rw [if_neg (by omega)]) (Trapped.mk' HM1.out rfl rfl (HS1.out _ _ _ (Nat.le_refl _) HM.out.st) ((Keeps.of_below HBel.out).trans HK1.out)))
 have HX1 := Lib.hid (nth_some (m := m) hx1)
 have HO1 := Lib.hid hox
 have HN1 := Lib.hid hm1
 have HKN1 := Lib.hid (HK1.out.trans (hw1 ▸ HM1.out.putK 24 sv1))
 have HSN1 := Lib.hid (HS1.out.trans (hw1 ▸ Saves.set HM1.out 24 sv1 m.st.length) (Nat.le_refl _))
 have cc := hm1.cell 19 _ rfl
 have zz := hm1.frz 19
 clear hm1 hw1 hx1 hox
 have hb := HO1.out
 unfold OkU16 at hb
 have q1 : x1.tmod 64 = x1 % 64 := Int.tmod_eq_emod_of_nonneg hb.1
 have q2 : IntKind.u16.wrap (x1 % 64) = x1 % 64 := by rw [IntKind.wrap_u16]; omega
 have q3 : IntKind.i64.wrap (x1 % 64) = x1 % 64 := IntWalk.i64_in _ (by omega)
 have HM3 := Lib.hid (HN1.out.setBank (x := x1 % 64) (by unfold OkI64; omega))
 have HR : Hid (some (retM m) = some (.ok { setSt m (m.st.take (m.st.length - 2)) with pc := x0, bank := x1 % 64 })) := Lib.hid (by unfold retM; rw [if_pos (by omega), HX0.out, HX1.out])
 clear hb
 go_wp2_with fail
 exact bodyPost_ret (v := .bool true) (by simp [results, Tryz.results45, go_sem]) rfl (tried_ok HR.out ⟨⟨_, _, HM3.out⟩, (Keeps.of_below HBel.out).trans (HKN1.out.trans (HN1.out.putK 19 _))⟩)
set_option maxRecDepth 8000 in
set_option maxHeartbeats 4000000 in
theorem ctl_iret {E : Env} {V : World} {m : Mach} {sv ov : Value} (h : MachAt E V m sv ov) (d : Nat) (si imm aux bank size : Int) (hd : d < 8) (hi : OkU16 imm) (ha : OkU16 aux) (hb : OkI64 bank) : Calls Tryz.prog 45 #[.pointer (some ⟨E.B, 0, none⟩), .agg #[.int .i64 3, .int .i64 (d : Int), .int .i64 si, .int .u16 imm, .int .u16 aux, .int .i64 bank, .int .i64 size]] V (Tried E V m sv ov (some (iretM m))) := by
 obtain ⟨hI, HM, HBel, -⟩ := box26 h 3 d si imm aux bank size
 have HI := Lib.hid hI
 have H := Lib.hid h
 have HD := Lib.hid hd
 have HII := Lib.hid hi
 have HAX := Lib.hid ha
 have HBK := Lib.hid hb
 have d0 : (0 : Int) ≤ (d : Int) := by omega
 have d1 : (d : Int) < 8 := by omega
 clear h hI hd hi ha hb
 go_enter Tryz.func45, Tryz.ntmps45
 go_upto_region 1 with (fail)
 generalize V.alloc _ = W0 at *
 have KC := kcK (base := E.base) HI.out
 clear HI
 obtain ⟨i0, i1, i2, i3, i4, i5, i6⟩ := KC.out W0 (Keeps.refl _ _)
 have c15 := HM.out.cell 15 _ rfl
 go_wp2_with fail
 clear i0 i1 i2 i3 i4 i5 i6 c15
 go_loopw [6] (fun i_ wr => ∃ n : Nat, n ≤ 8 ∧ i_ = .int .i64 (7 - (n : Int)) ∧ n ≤ m.st.length ∧ ∃ sv1, MachAt E wr (popsR m n) sv1 ov ∧ Keeps E.base W0 wr ∧ Saves E W0 wr m.st.length) (fun i_ _ => (intOf i_ + 1).toNat)
 case atStart => exact ⟨0, by omega, rfl, by omega, sv, by
   have : popsR m 0 = m := by
    unfold popsR setSt
    rw [Nat.sub_zero, List.take_length]
    have : regsI m 0 = m.R := by funext i; unfold regsI; rw [if_neg (by omega)]
    rw [this]
   rw [this]; exact HM.out, Keeps.refl _ _, fun _ _ _ _ h => h⟩
 case round =>
  obtain ⟨n, hn, rfl, hnl, sv1, hM, hK, hSv⟩ := hrel
  have HM1 := Lib.hid hM
  have HK1 := Lib.hid hK
  have HS1 := Lib.hid hSv
  clear hM hK hSv
  by_cases hlt : n < 8
  ·obtain ⟨k, hk⟩ : ∃ k : Nat, k + n = 7 := ⟨7 - n, by omega⟩
   have hkk : 7 - (n : Int) = (k : Int) := by omega
   have b0 : decide ((0 : Int) ≤ (k : Int)) = true := decide_eq_true (by omega)
   have k0 : (0 : Int) ≤ (k : Int) := by omega
   have k1 : (k : Int) < 8 := by omega
   have x1 : IntKind.i64.wrap ((k : Int) - 1) = (k : Int) - 1 := IntWalk.i64_in _ (by omega)
   have HKK := Lib.hid hk
   rw [hkk]
   have HKQ := Lib.hid hkk
   clear hkk
   go_upto_region 14 with (fail)
   have HC : Hid (∀ W, Below wr.heap.size wr W → Calls Tryz.prog 73 #[.pointer (some ⟨E.B, 0, none⟩)] W fun e w' => (n = m.st.length ∧ e = .panicked [{ v := .iface 65 (.agg #[.int .i64 5, .int .u16 0]), recovered := false }] ∧ W = w') ∨
    (∃ x sv', n < m.st.length ∧ m.st[m.st.length - (n + 1)]? = some x ∧ OkU16 x ∧ e = .returned (.int .u16 x) ∧ MachAt E w' (setSt (popsR m n) (m.st.take (m.st.length - (n + 1)))) sv' ov ∧ w' = W.setCell ⟨E.B, 24, none⟩ sv')) := Lib.hid fun W hW => pop_take m.st n (HM1.out.next hW) rfl (by omega)
   by_cases hne : n = m.st.length
   ·have HNE := Lib.hid hne
    have hR : Hid (some (iretM m) = some (.error (5, 0))) := Lib.hid (by unfold iretM; rw [if_neg (by omega)])
    clear hne
    refine wp_region_flowW (S0 := fun W => Below wr.heap.size wr W) (S1 := fun _ => False) (Z := fun c w' => Tried E V m sv ov (some (iretM m)) (.panicked c) w') 3 (by kernel_rfl) (by kernel_rfl) (by kernel_rfl) (Below.drew (Below.refl _ _)) (fun chain b w' hd hz => ⟨hd, hz⟩) ?_
    iterate 3
     apply FlowW.step
     ·intro V3 K hS hK
      go_simp
      exact hK
     simp only [lQ]
    refine FlowW.call (.int .u16 0) rfl ?_ ?_
    ·intro V3 K hS hK
     go_simp
     go_at_call 73
     refine (HC.out _ hS).mono ?_
     rintro e w9 (⟨_, rfl, rfl⟩ | ⟨x, sv', hlt', _⟩)
     ·exact ⟨_, rfl, tried_err hR.out (Trapped.mk' (HM1.out.next hS) rfl rfl (own_next (HS1.out _ _ _ (Nat.le_refl _) HM.out.st) hS) (((Keeps.of_below HBel.out).trans HK1.out).trans (Keeps.of_below hS)))⟩
     ·exact absurd HNE.out (Nat.ne_of_lt hlt')
    simp only [lQ]
    iterate 4
     apply FlowW.after
     ·intro V3 K hS hK
      go_simp
      exact hK
     simp only [lQ]
    refine FlowW.last ?_
    intro V3 K hS hK
    exact hS.elim
   ·obtain ⟨x, hx⟩ := at_some m.st (m.st.length - (n + 1)) (by omega)
    have HX := Lib.hid hx
    have HNL := Lib.hid (show n < m.st.length by omega)
    have HOX : Hid (OkU16 x) := Lib.hid (H.out.ok.st x (List.mem_of_getElem? hx))
    clear hx hne
    refine wp_region_flowW (S0 := fun W => Below wr.heap.size wr W) (S1 := fun W => ∃ sv', MachAt E W (setSt (popsR m n) (m.st.take (m.st.length - (n + 1)))) sv' ov ∧ Keeps E.base wr W ∧ Saves E wr W m.st.length) (Z := fun _ _ => False) 3 (by kernel_rfl) (by kernel_rfl) (by kernel_rfl) (Below.drew (Below.refl _ _)) (fun chain b w' hd hz => hz.elim) ?_
    iterate 3
     apply FlowW.step
     ·intro V3 K hS hK
      go_simp
      exact hK
     simp only [lQ]
    refine FlowW.call ?_ rfl ?_ ?_
    rotate_left
    ·intro V3 K hS hK
     go_simp
     go_at_call 73
     refine (HC.out _ hS).mono ?_
     rintro e w9 (⟨hq, _⟩ | ⟨x', sv', hlt', hx', _, rfl, hm', hw'⟩)
     ·have := HNL.out; omega
     ·have hxx := HX.out.symm.trans hx'
      injection hxx with hxx
      subst hxx
      exact hK _ ⟨sv', hm', (Keeps.of_below hS).trans (hw' ▸ (HM1.out.next hS).putK 24 sv'), (Saves.of_below hS m.st.length).trans (hw' ▸ Saves.set (HM1.out.next hS) 24 sv' m.st.length) (Nat.le_refl _)⟩
    simp only [lQ]
    iterate 4
     apply FlowW.after
     ·intro V3 K hS hK
      go_simp
      exact hK
     simp only [lQ]
    refine FlowW.last ?_
    intro V3 K hS hK
    obtain ⟨sv', hM2, hK2, hS2⟩ := hS
    obtain cd := hM2.cell (7 + k) _ (mcells_getR E _ sv' ov k (by omega))
    obtain zd := hM2.frz (7 + k)
    go_simp
    refine hK _ _ ?_
    have HM3 : Hid (MachAt E (V3.setCell ⟨E.B, 7 + k, none⟩ (.int .u16 x)) (popsR m (n + 1)) sv' ov) := Lib.hid (by
     have h9 := hM2.setReg k (by omega) HOX.out
     have e9 : ({ setSt (popsR m n) (m.st.take (m.st.length - (n + 1))) with R := setR (setSt (popsR m n) (m.st.take (m.st.length - (n + 1)))).R k x } : Mach) = popsR m (n + 1) := by
      show ({ setSt m (m.st.take (m.st.length - (n + 1))) with R := setR (regsI m n) k x } : Mach) = _
      rw [regsI_step m n k HKK.out x HX.out HNL.out]
      rfl
     rw [e9] at h9
     exact h9)
    have HK3 := Lib.hid ((HK1.out.trans hK2).trans (hM2.putK (7 + k) (.int .u16 x)))
    have HS3 := Lib.hid ((HS1.out.trans hS2 (Nat.le_refl _)).trans (Saves.set hM2 (7 + k) (.int .u16 x) m.st.length) (Nat.le_refl _))
    clear hM2 hK2 hS2 hK cd zd
    go_wp2_with fail
    go_roundw
    case rel => exact ⟨n + 1, by omega, by have := HKQ.out; simp only [Value.int.injEq, true_and]; push_cast; omega, by have := HNL.out; omega, sv', HM3.out, HK3.out, HS3.out⟩
    case measure => simp only [intOf]; omega
  ·obtain rfl : n = 8 := by omega
   have b0 : decide ((0 : Int) ≤ 7 - ((8 : Nat) : Int)) = false := by decide
   have HM0 : Hid (MachAt E wr (setSt (popsR m 8) (m.st.take (m.st.length - 8))) sv1 ov) := Lib.hid HM1.out
   go_wp2_with fail
   refine (pop_take m.st 8 HM0.out rfl (by omega)).mono ?_
   rintro e w9 (⟨hkl, rfl, rfl⟩ | ⟨x8, sv8, hkl8, hx8, hox, rfl, hm1, hw1⟩)
   ·exact panics (fn := Tryz.f45) rfl (tried_err (by unfold iretM; rw [if_neg (by omega)]) (Trapped.mk' HM0.out rfl rfl (HS1.out _ _ _ (Nat.le_refl _) HM.out.st) ((Keeps.of_below HBel.out).trans HK1.out)))
   have HX8 := Lib.hid (nth_some (m := m) hx8)
   have HO8 := Lib.hid hox
   have HN8 := Lib.hid hm1
   have HKN8 := Lib.hid (HK1.out.trans (hw1 ▸ HM0.out.putK 24 sv8))
   have HSN8 := Lib.hid (HS1.out.trans (hw1 ▸ Saves.set HM0.out 24 sv8 m.st.length) (Nat.le_refl _))
   have cc := hm1.cell 17 _ rfl
   have zz := hm1.frz 17
   clear hm1 hw1 hx8 hox
   go_upto_region 16 with (fail)
   have HMa := Lib.hid (HN8.out.setFp HO8.out)
   have HKa := Lib.hid (HKN8.out.trans (HN8.out.putK 17 (.int .u16 x8)))
   have HSa := Lib.hid (HSN8.out.trans (Saves.set HN8.out 17 (.int .u16 x8) m.st.length) (Nat.le_refl _))
   clear cc zz
   generalize w9.setCell _ _ = W2 at *
   go_wp2_with fail
   refine (pop_take m.st 9 HMa.out rfl (by omega)).mono ?_
   rintro e w8 (⟨hkl, rfl, rfl⟩ | ⟨x9, sv9, hkl9, hx9, hox, rfl, hm1, hw1⟩)
   ·exact panics (fn := Tryz.f45) rfl (tried_err (by unfold iretM; rw [if_neg (by omega)]) (Trapped.mk' HMa.out rfl rfl (HSa.out _ _ _ (Nat.le_refl _) HM.out.st) ((Keeps.of_below HBel.out).trans HKa.out)))
   have HX9 := Lib.hid (nth_some (m := m) hx9)
   have HO9 := Lib.hid hox
   have HN9 := Lib.hid hm1
   have HKN9 := Lib.hid (HKa.out.trans (hw1 ▸ HMa.out.putK 24 sv9))
   have HSN9 := Lib.hid (HSa.out.trans (hw1 ▸ Saves.set HMa.out 24 sv9 m.st.length) (Nat.le_refl _))
   have cc := hm1.cell 18 _ rfl
   have zz := hm1.frz 18
   clear hm1 hw1 hx9 hox
   have hb := HO9.out
   unfold OkU16 at hb
   have q1 : x9.tmod 16 = x9 % 16 := Int.tmod_eq_emod_of_nonneg hb.1
   have q2 : IntKind.u16.wrap (x9 % 16) = x9 % 16 := by rw [IntKind.wrap_u16]; omega
   have HMb := Lib.hid (HN9.out.setF (x := x9 % 16) (by unfold OkU16; omega))
   have HKb := Lib.hid (HKN9.out.trans (HN9.out.putK 18 (.int .u16 (x9 % 16))))
   have HSb := Lib.hid (HSN9.out.trans (Saves.set HN9.out 18 (.int .u16 (x9 % 16)) m.st.length) (Nat.le_refl _))
   clear hb
   go_upto_region 17 with (fail)
   clear cc zz q1 q2
   generalize w8.setCell _ _ = W4 at *
   go_wp2_with fail
   refine (pop_take m.st 10 HMb.out rfl (by omega)).mono ?_
   rintro e w7 (⟨hkl, rfl, rfl⟩ | ⟨x10, sv10, hkl10, hx10, hox, rfl, hm1, hw1⟩)
   ·exact panics (fn := Tryz.f45) rfl (tried_err (by unfold iretM; rw [if_neg (by omega)]) (Trapped.mk' HMb.out rfl rfl (HSb.out _ _ _ (Nat.le_refl _) HM.out.st) ((Keeps.of_below HBel.out).trans HKb.out)))
   have HX10 := Lib.hid (nth_some (m := m) hx10)
   have HO10 := Lib.hid hox
   have HN10 := Lib.hid hm1
   have HKN10 := Lib.hid (HKb.out.trans (hw1 ▸ HMb.out.putK 24 sv10))
   have HSN10 := Lib.hid (HSb.out.trans (hw1 ▸ Saves.set HMb.out 24 sv10 m.st.length) (Nat.le_refl _))
   have cc := hm1.cell 15 _ rfl
   have zz := hm1.frz 15
   clear hm1 hw1 hx10 hox
   have HMc := Lib.hid (HN10.out.setPc HO10.out)
   have HKc := Lib.hid (HKN10.out.trans (HN10.out.putK 15 (.int .u16 x10)))
   have HSc := Lib.hid (HSN10.out.trans (Saves.set HN10.out 15 (.int .u16 x10) m.st.length) (Nat.le_refl _))
   go_upto_region 18 with (fail)
   clear cc zz
   generalize w7.setCell _ _ = W6 at *
   go_wp2_with fail
   refine (pop_take m.st 11 HMc.out rfl (by omega)).mono ?_
   rintro e w6 (⟨hkl, rfl, rfl⟩ | ⟨x11, sv11, hkl11, hx11, hox, rfl, hm1, hw1⟩)
   ·exact panics (fn := Tryz.f45) rfl (tried_err (by unfold iretM; rw [if_neg (by omega)]) (Trapped.mk' HMc.out rfl rfl (HSc.out _ _ _ (Nat.le_refl _) HM.out.st) ((Keeps.of_below HBel.out).trans HKc.out)))
   have HX11 := Lib.hid (nth_some (m := m) hx11)
   have HO11 := Lib.hid hox
   have HN11 := Lib.hid hm1
   have HKN11 := Lib.hid (HKc.out.trans (hw1 ▸ HMc.out.putK 24 sv11))
   have HSN11 := Lib.hid (HSc.out.trans (hw1 ▸ Saves.set HMc.out 24 sv11 m.st.length) (Nat.le_refl _))
   have cc := hm1.cell 19 _ rfl
   have zz := hm1.frz 19
   clear hm1 hw1 hx11 hox
   have hb := HO11.out
   unfold OkU16 at hb
   have q1 : x11.tmod 64 = x11 % 64 := Int.tmod_eq_emod_of_nonneg hb.1
   have q2 : IntKind.u16.wrap (x11 % 64) = x11 % 64 := by rw [IntKind.wrap_u16]; omega
   have q3 : IntKind.i64.wrap (x11 % 64) = x11 % 64 := IntWalk.i64_in _ (by omega)
   have HMd := Lib.hid (HN11.out.setBank (x := x11 % 64) (by unfold OkI64; omega))
   have HR : Hid (some (iretM m) = some (.ok { setSt m (m.st.take (m.st.length - 12)) with R := regsI m 8, fp := x8, f := x9 % 16, pc := x10, bank := x11 % 64 })) := Lib.hid (by unfold iretM; rw [if_pos (by omega), HX8.out, HX9.out, HX10.out, HX11.out])
   clear hb
   go_wp2_with fail
   exact bodyPost_ret (v := .bool true) (by simp [results, Tryz.results45, go_sem]) rfl (tried_ok HR.out ⟨⟨_, _, HMd.out⟩, (Keeps.of_below HBel.out).trans (HKN11.out.trans (HN11.out.putK 19 _))⟩)
set_option maxRecDepth 8000 in
set_option maxHeartbeats 4000000 in
theorem ctl_jmp {E : Env} {V : World} {m : Mach} {sv ov : Value} (h : MachAt E V m sv ov) (op : Int) (d : Nat) (si imm aux bank size : Int) (hd : d < 8) (hi : OkU16 imm) (ha : OkU16 aux) (hb : OkI64 bank) (hop : op = 128 ∨ op = 129) : Calls Tryz.prog 45 #[.pointer (some ⟨E.B, 0, none⟩), .agg #[.int .i64 op, .int .i64 (d : Int), .int .i64 si, .int .u16 imm, .int .u16 aux, .int .i64 bank, .int .i64 size]] V (Tried E V m sv ov (some (.ok (addPc m imm)))) := by
 obtain ⟨hI, HM, HBel, -⟩ := box26 h op d si imm aux bank size
 have HI := Lib.hid hI
 have H := Lib.hid h
 have HD := Lib.hid hd
 have HII := Lib.hid hi
 have HAX := Lib.hid ha
 have HBK := Lib.hid hb
 have d0 : (0 : Int) ≤ (d : Int) := by omega
 have d1 : (d : Int) < 8 := by omega
 have HOP := Lib.hid hop
 clear hop
 have hw : IntKind.u16.wrap (m.pc + imm) = (m.pc + imm) % 65536 := by rw [IntKind.wrap_u16]
 clear h hI hd hi ha hb
 go_enter Tryz.func45, Tryz.ntmps45
 go_upto_region 1 with (fail)
 generalize V.alloc _ = W0 at *
 have KC := kcK (base := E.base) HI.out
 clear HI
 obtain ⟨i0, i1, i2, i3, i4, i5, i6⟩ := KC.out W0 (Keeps.refl _ _)
 have c15 := HM.out.cell 15 _ rfl
 rcases HOP.out with rfl | rfl
 all_goals
  go_upto_region 21 with (fail)
  clear i0 i1 i2 i3 i4 i5 i6 c15
  refine' wp_region_flowR [[], [(102, 0)], [(103, 1)], [(104, 2)], [(105, 3)], [], [(107, 5)], [(106, 4), (108, 6)], [(102, 0)], [(110, 8)], [(111, 9)], [(102, 0), (103, 1), (104, 2), (105, 3), (106, 4), (107, 5), (108, 6), (109, 7), (110, 8), (111, 9), (112, 10)]] (relL [eqV _, eqV _, eqV _, eqV _, eqV _, eqV _, eqV _, eqV _, eqV _, eqV _, eqV _]) (by kernel_rfl) (by kernel_rfl) ?_
  rotate_left 11
  iterate 11
   refine FlowR.step ?_ ?_
   ·intro V3 hV
    simp only [Dep, lQ]
    repeat rintro _ ⟨_, rfl, _⟩
    intro K hK
    obtain ⟨i0, i1, i2, i3, i4, i5, i6⟩ := KC.out _ ((Keeps.refl E.base W0).trans (Keeps.of_below hV))
    obtain c15 := (HM.out.next hV).cell 15 _ rfl
    go_simp
    refine hK _ _ ?_ (Below.refl _ _)
    simp only [lR]
    exact rfl
  refine FlowR.last ?_
  intro V3 hV
  simp only [Dep, lQ]
  rintro x102 ⟨V102, rfl, hb102⟩
  rintro x103 ⟨V103, rfl, hb103⟩
  rintro x104 ⟨V104, rfl, hb104⟩
  rintro x105 ⟨V105, rfl, hb105⟩
  rintro x106 ⟨V106, rfl, hb106⟩
  rintro x107 ⟨V107, rfl, hb107⟩
  rintro x108 ⟨V108, rfl, hb108⟩
  rintro x109 ⟨V109, rfl, hb109⟩
  rintro x110 ⟨V110, rfl, hb110⟩
  rintro x111 ⟨V111, rfl, hb111⟩
  rintro x112 ⟨V112, rfl, hb112⟩
  intro K hK
  have hM3 := HM.out.next hV
  have c15 := hM3.cell 15 _ rfl
  have z15 := hM3.frz 15
  go_simp
  refine hK _ _ ?_
  have HM4 : Hid (MachAt E (V3.setCell ⟨E.B, 15, none⟩ (.int .u16 ((m.pc + imm) % 65536))) (addPc m imm) sv ov) := Lib.hid (hM3.setPc (by unfold OkU16; omega))
  have HK4 := Lib.hid (((Keeps.refl E.base W0).trans (Keeps.of_below hV)).trans (hM3.putK 15 (.int .u16 ((m.pc + imm) % 65536))))
  clear hM3 c15 z15 hV hK
  go_wp2_with fail
  exact bodyPost_ret (v := .bool true) (by simp [results, Tryz.results45, go_sem]) rfl (tried_ok rfl ⟨⟨_, _, HM4.out⟩, (Keeps.of_below HBel.out).trans HK4.out⟩)
set_option maxRecDepth 8000 in
set_option maxHeartbeats 4000000 in
theorem ctl_call {E : Env} {V : World} {m : Mach} {sv ov : Value} (h : MachAt E V m sv ov) (d : Nat) (si imm aux bank size : Int) (hd : d < 8) (hi : OkU16 imm) (ha : OkU16 aux) (hb : OkI64 bank) : Calls Tryz.prog 45 #[.pointer (some ⟨E.B, 0, none⟩), .agg #[.int .i64 130, .int .i64 (d : Int), .int .i64 si, .int .u16 imm, .int .u16 aux, .int .i64 bank, .int .i64 size]] V (Tried E V m sv ov (some (callM m imm))) := by
 obtain ⟨hI, HM, HBel, -⟩ := box26 h 130 d si imm aux bank size
 have HI := Lib.hid hI
 have H := Lib.hid h
 have HD := Lib.hid hd
 have HII := Lib.hid hi
 have HAX := Lib.hid ha
 have HBK := Lib.hid hb
 have d0 : (0 : Int) ≤ (d : Int) := by omega
 have d1 : (d : Int) < 8 := by omega
 have hw : IntKind.u16.wrap m.bank = m.bank % 65536 := by rw [IntKind.wrap_u16]
 have hw2 : IntKind.u16.wrap (m.pc + imm) = (m.pc + imm) % 65536 := by rw [IntKind.wrap_u16]
 clear h hI hd hi ha hb
 go_enter Tryz.func45, Tryz.ntmps45
 go_upto_region 1 with (fail)
 generalize V.alloc _ = W0 at *
 have KC := kcK (base := E.base) HI.out
 clear HI
 obtain ⟨i0, i1, i2, i3, i4, i5, i6⟩ := KC.out W0 (Keeps.refl _ _)
 have c15 := HM.out.cell 15 _ rfl
 have c19 := HM.out.cell 19 _ rfl
 go_wp2_with fail
 clear c19 hw
 clear i0 i1 i2 i3 i4 i5 i6 c15
 obtain ⟨hsrc, hne⟩ := src_row (l := [m.bank % 65536, m.pc]) HM.out (Below.refl _ _) (Below.refl _ _) (cs := #[.int .u16 (m.bank % 65536), .int .u16 m.pc]) rfl (by intro x hx; simp at hx; rcases hx with rfl | rfl; (unfold OkU16; omega); exact H.out.ok.pc)
 refine (push_any (HM.out.next (below1 _ _)) _ _ _ _ [m.bank % 65536, m.pc] hsrc hne (by simp)).mono ?_
 rintro e w9 (⟨hle, rfl, sv', hm', hk', hs', _⟩ | ⟨hle, rfl, ht, hs'⟩)
 rotate_left
 ·exact panics rfl (tried_err (by unfold callM push2M; rw [if_neg (show ¬ m.st.length + 2 ≤ 4096 from hle)]) ((ht.pre HM.out (below1 _ _)).pre H.out HBel.out))
 have HM1 : Hid (MachAt E w9 (setSt m (m.st ++ [m.bank % 65536, m.pc])) sv' ov) := Lib.hid hm'
 have HK1 := Lib.hid ((Keeps.of_below (below1 W0 _)).trans hk')
 have HP : Hid (push2M m = .ok (setSt m (m.st ++ [m.bank % 65536, m.pc]))) := Lib.hid (by unfold push2M; rw [if_pos (show m.st.length + 2 ≤ 4096 from hle)])
 clear hm' hk' hs' hsrc hne hle
 have HR : Hid (some (callM m imm) = some (.ok (addPc (setSt m (m.st ++ [m.bank % 65536, m.pc])) imm))) := Lib.hid (by unfold callM; rw [HP.out])
 go_upto_region 24 with (fail)
 refine' wp_region_flowR [[], [(125, 0)], [(126, 1)], [(127, 2)], [(128, 3)], [], [(130, 5)], [(129, 4), (131, 6)], [(125, 0)], [(133, 8)], [(134, 9)], [(125, 0), (126, 1), (127, 2), (128, 3), (129, 4), (130, 5), (131, 6), (132, 7), (133, 8), (134, 9), (135, 10)]] (relL [eqV _, eqV _, eqV _, eqV _, eqV _, eqV _, eqV _, eqV _, eqV _, eqV _, eqV _]) (by kernel_rfl) (by kernel_rfl) ?_
 rotate_left 11
 iterate 11
  refine FlowR.step ?_ ?_
  ·intro V3 hV
   simp only [Dep, lQ]
   repeat rintro _ ⟨_, rfl, _⟩
   intro K hK
   obtain ⟨i0, i1, i2, i3, i4, i5, i6⟩ := KC.out _ (HK1.out.trans (Keeps.of_below hV))
   obtain c15 := (HM1.out.next hV).cell 15 _ rfl
   go_simp
   refine hK _ _ ?_ (Below.refl _ _)
   simp only [lR]
   exact rfl
 refine FlowR.last ?_
 intro V3 hV
 simp only [Dep, lQ]
 rintro x125 ⟨V125, rfl, hb125⟩
 rintro x126 ⟨V126, rfl, hb126⟩
 rintro x127 ⟨V127, rfl, hb127⟩
 rintro x128 ⟨V128, rfl, hb128⟩
 rintro x129 ⟨V129, rfl, hb129⟩
 rintro x130 ⟨V130, rfl, hb130⟩
 rintro x131 ⟨V131, rfl, hb131⟩
 rintro x132 ⟨V132, rfl, hb132⟩
 rintro x133 ⟨V133, rfl, hb133⟩
 rintro x134 ⟨V134, rfl, hb134⟩
 rintro x135 ⟨V135, rfl, hb135⟩
 intro K hK
 have hM3 := HM1.out.next hV
 have c15 := hM3.cell 15 _ rfl
 have z15 := hM3.frz 15
 go_simp
 refine hK _ _ ?_
 have HM4 : Hid (MachAt E (V3.setCell ⟨E.B, 15, none⟩ (.int .u16 ((m.pc + imm) % 65536))) (addPc (setSt m (m.st ++ [m.bank % 65536, m.pc])) imm) sv' ov) := Lib.hid (hM3.setPc (by unfold OkU16; omega))
 have HK4 := Lib.hid ((HK1.out.trans (Keeps.of_below hV)).trans (hM3.putK 15 (.int .u16 ((m.pc + imm) % 65536))))
 clear hM3 c15 z15 hV hK
 go_wp2_with fail
 exact bodyPost_ret (v := .bool true) (by simp [results, Tryz.results45, go_sem]) rfl (tried_ok HR.out ⟨⟨_, _, HM4.out⟩, (Keeps.of_below HBel.out).trans HK4.out⟩)
set_option maxRecDepth 8000 in
set_option maxHeartbeats 4000000 in
theorem ctl_callf {E : Env} {V : World} {m : Mach} {sv ov : Value} (h : MachAt E V m sv ov) (d : Nat) (si imm aux bank size : Int) (hd : d < 8) (hi : OkU16 imm) (ha : OkU16 aux) (hb : OkI64 bank) : Calls Tryz.prog 45 #[.pointer (some ⟨E.B, 0, none⟩), .agg #[.int .i64 132, .int .i64 (d : Int), .int .i64 si, .int .u16 imm, .int .u16 aux, .int .i64 bank, .int .i64 size]] V (Tried E V m sv ov (some (callfM m ⟨132, d, si, imm, aux, bank, size⟩))) := by
 obtain ⟨hI, HM, HBel, -⟩ := box26 h 132 d si imm aux bank size
 have HI := Lib.hid hI
 have H := Lib.hid h
 have HD := Lib.hid hd
 have HII := Lib.hid hi
 have HAX := Lib.hid ha
 have HBK := Lib.hid hb
 have d0 : (0 : Int) ≤ (d : Int) := by omega
 have d1 : (d : Int) < 8 := by omega
 have hw : IntKind.u16.wrap m.bank = m.bank % 65536 := by rw [IntKind.wrap_u16]
 have hw2 : IntKind.u16.wrap (m.pc + imm) = (m.pc + imm) % 65536 := by rw [IntKind.wrap_u16]
 clear h hI hd hi ha hb
 go_enter Tryz.func45, Tryz.ntmps45
 go_upto_region 1 with (fail)
 generalize V.alloc _ = W0 at *
 have KC := kcK (base := E.base) HI.out
 clear HI
 obtain ⟨i0, i1, i2, i3, i4, i5, i6⟩ := KC.out W0 (Keeps.refl _ _)
 have c15 := HM.out.cell 15 _ rfl
 have c19 := HM.out.cell 19 _ rfl
 go_wp2_with fail
 clear c19 hw
 clear i0 i1 i2 i3 i4 i5 i6 c15
 obtain ⟨hsrc, hne⟩ := src_row (l := [m.bank % 65536, m.pc]) HM.out (Below.refl _ _) (Below.refl _ _) (cs := #[.int .u16 (m.bank % 65536), .int .u16 m.pc]) rfl (by intro x hx; simp at hx; rcases hx with rfl | rfl; (unfold OkU16; omega); exact H.out.ok.pc)
 refine (push_any (HM.out.next (below1 _ _)) _ _ _ _ [m.bank % 65536, m.pc] hsrc hne (by simp)).mono ?_
 rintro e w9 (⟨hle, rfl, sv', hm', hk', hs', _⟩ | ⟨hle, rfl, ht, hs'⟩)
 rotate_left
 ·exact panics rfl (tried_err (by unfold callfM push2M; rw [if_neg (show ¬ m.st.length + 2 ≤ 4096 from hle)]) ((ht.pre HM.out (below1 _ _)).pre H.out HBel.out))
 have HM1 : Hid (MachAt E w9 (setSt m (m.st ++ [m.bank % 65536, m.pc])) sv' ov) := Lib.hid hm'
 have HK1 := Lib.hid ((Keeps.of_below (below1 W0 _)).trans hk')
 have HP : Hid (push2M m = .ok (setSt m (m.st ++ [m.bank % 65536, m.pc]))) := Lib.hid (by unfold push2M; rw [if_pos (show m.st.length + 2 ≤ 4096 from hle)])
 clear hm' hk' hs' hsrc hne hle
 have HR : Hid (some (callfM m ⟨132, d, si, imm, aux, bank, size⟩) = some (.ok (farM (setSt m (m.st ++ [m.bank % 65536, m.pc])) ⟨132, d, si, imm, aux, bank, size⟩))) := Lib.hid (by unfold callfM; rw [HP.out])
 obtain ⟨i0, i1, i2, i3, i4, i5, i6⟩ := KC.out w9 HK1.out
 clear hw2
 go_wp2_with fail
 clear i0 i1 i2 i3 i4 i5 i6
 refine (far_any HM1.out ⟨132, d, si, imm, aux, bank, size⟩ HII.out HBK.out).mono ?_
 rintro e w8 ⟨rfl, hm2, hk2⟩
 have HM2 := Lib.hid hm2
 have HK2 := Lib.hid (HK1.out.trans hk2)
 clear hm2 hk2
 go_wp2_with fail
 exact bodyPost_ret (v := .bool true) (by simp [results, Tryz.results45, go_sem]) rfl (tried_ok HR.out ⟨⟨_, _, HM2.out⟩, (Keeps.of_below HBel.out).trans HK2.out⟩)
set_option maxRecDepth 8000 in
set_option maxHeartbeats 4000000 in
theorem ctl_jmpf {E : Env} {V : World} {m : Mach} {sv ov : Value} (h : MachAt E V m sv ov) (d : Nat) (si imm aux bank size : Int) (hd : d < 8) (hi : OkU16 imm) (ha : OkU16 aux) (hb : OkI64 bank) : Calls Tryz.prog 45 #[.pointer (some ⟨E.B, 0, none⟩), .agg #[.int .i64 131, .int .i64 (d : Int), .int .i64 si, .int .u16 imm, .int .u16 aux, .int .i64 bank, .int .i64 size]] V (Tried E V m sv ov (some (.ok (farM m ⟨131, d, si, imm, aux, bank, size⟩)))) := by
 obtain ⟨hI, HM, HBel, -⟩ := box26 h 131 d si imm aux bank size
 have HI := Lib.hid hI
 have H := Lib.hid h
 have HD := Lib.hid hd
 have HII := Lib.hid hi
 have HAX := Lib.hid ha
 have HBK := Lib.hid hb
 have d0 : (0 : Int) ≤ (d : Int) := by omega
 have d1 : (d : Int) < 8 := by omega
 clear h hI hd hi ha hb
 go_enter Tryz.func45, Tryz.ntmps45
 go_upto_region 1 with (fail)
 generalize V.alloc _ = W0 at *
 have KC := kcK (base := E.base) HI.out
 clear HI
 obtain ⟨i0, i1, i2, i3, i4, i5, i6⟩ := KC.out W0 (Keeps.refl _ _)
 have c15 := HM.out.cell 15 _ rfl
 go_wp2_with fail
 clear i0 i1 i2 i3 i4 i5 i6 c15
 refine (far_any HM.out ⟨131, d, si, imm, aux, bank, size⟩ HII.out HBK.out).mono ?_
 rintro e w8 ⟨rfl, hm2, hk2⟩
 have HM2 := Lib.hid hm2
 have HK2 := Lib.hid hk2
 clear hm2 hk2
 go_wp2_with fail
 exact bodyPost_ret (v := .bool true) (by simp [results, Tryz.results45, go_sem]) rfl (tried_ok rfl ⟨⟨_, _, HM2.out⟩, (Keeps.of_below HBel.out).trans HK2.out⟩)
set_option maxRecDepth 8000 in
set_option maxHeartbeats 4000000 in
theorem ctl_jtab {E : Env} {V : World} {m : Mach} {sv ov : Value} (h : MachAt E V m sv ov) (d : Nat) (si imm aux bank size : Int) (hd : d < 8) (hi : OkU16 imm) (ha : OkU16 aux) (hb : OkI64 bank) : Calls Tryz.prog 45 #[.pointer (some ⟨E.B, 0, none⟩), .agg #[.int .i64 133, .int .i64 (d : Int), .int .i64 si, .int .u16 imm, .int .u16 aux, .int .i64 bank, .int .i64 size]] V (Tried E V m sv ov (some (jtabM E m d imm aux bank))) := by
 obtain ⟨hI, HM, HBel, -⟩ := box26 h 133 d si imm aux bank size
 have HI := Lib.hid hI
 have H := Lib.hid h
 have HD := Lib.hid hd
 have HII := Lib.hid hi
 have HAX := Lib.hid ha
 have HBK := Lib.hid hb
 have d0 : (0 : Int) ≤ (d : Int) := by omega
 have d1 : (d : Int) < 8 := by omega
 have hw2 : IntKind.u16.wrap (m.pc + imm) = (m.pc + imm) % 65536 := by rw [IntKind.wrap_u16]
 clear h hI hd hi ha hb
 go_enter Tryz.func45, Tryz.ntmps45
 go_upto_region 1 with (fail)
 generalize V.alloc _ = W0 at *
 have KC := kcK (base := E.base) HI.out
 clear HI
 obtain ⟨i0, i1, i2, i3, i4, i5, i6⟩ := KC.out W0 (Keeps.refl _ _)
 have c15 := HM.out.cell 15 _ rfl
 go_upto_region 31 with (fail)
 clear i0 i1 i2 i3 i4 i5 i6 c15
 refine' wp_region_flowR [[], [(158, 0)], [(159, 1)], [(160, 2)], [(161, 3)], [], [(163, 5)], [(162, 4), (164, 6)], [(158, 0)], [(166, 8)], [(167, 9)], [(158, 0), (159, 1), (160, 2), (161, 3), (162, 4), (163, 5), (164, 6), (165, 7), (166, 8), (167, 9), (168, 10)]] (relL [eqV _, eqV _, eqV _, eqV _, eqV _, eqV _, eqV _, eqV _, eqV _, eqV _, eqV _]) (by kernel_rfl) (by kernel_rfl) ?_
 rotate_left 11
 iterate 11
  refine FlowR.step ?_ ?_
  ·intro V3 hV
   simp only [Dep, lQ]
   repeat rintro _ ⟨_, rfl, _⟩
   intro K hK
   obtain ⟨i0, i1, i2, i3, i4, i5, i6⟩ := KC.out _ ((Keeps.refl E.base W0).trans (Keeps.of_below hV))
   obtain c15 := (HM.out.next hV).cell 15 _ rfl
   go_simp
   refine hK _ _ ?_ (Below.refl _ _)
   simp only [lR]
   exact rfl
 refine FlowR.last ?_
 intro V3 hV
 simp only [Dep, lQ]
 rintro x158 ⟨V158, rfl, hb158⟩
 rintro x159 ⟨V159, rfl, hb159⟩
 rintro x160 ⟨V160, rfl, hb160⟩
 rintro x161 ⟨V161, rfl, hb161⟩
 rintro x162 ⟨V162, rfl, hb162⟩
 rintro x163 ⟨V163, rfl, hb163⟩
 rintro x164 ⟨V164, rfl, hb164⟩
 rintro x165 ⟨V165, rfl, hb165⟩
 rintro x166 ⟨V166, rfl, hb166⟩
 rintro x167 ⟨V167, rfl, hb167⟩
 rintro x168 ⟨V168, rfl, hb168⟩
 intro K hK
 have hM3 := HM.out.next hV
 have c15 := hM3.cell 15 _ rfl
 have z15 := hM3.frz 15
 go_simp
 refine hK _ _ ?_
 have HM4 : Hid (MachAt E (V3.setCell ⟨E.B, 15, none⟩ (.int .u16 ((m.pc + imm) % 65536))) (addPc m imm) sv ov) := Lib.hid (hM3.setPc (by unfold OkU16; omega))
 have HK4 := Lib.hid (((Keeps.refl E.base W0).trans (Keeps.of_below hV)).trans (hM3.putK 15 (.int .u16 ((m.pc + imm) % 65536))))
 clear hM3 c15 z15 hV hK
 generalize V3.setCell _ _ = W3 at *
 have HRD : Hid (∀ W, Below W3.heap.size W3 W → W.cell? ⟨E.B, 7 + d, none⟩ = some (.int .u16 (m.R d))) := Lib.hid fun W hW => (HM4.out.next hW).cell (7 + d) _ (mcells_getR E _ _ ov d HD.out)
 clear hw2
 go_upto_region 32 with (fail)
 have hRb := H.out.ok.R d
 unfold OkU16 at hRb
 have q0 : IntKind.i64.wrap (m.R d) = m.R d := IntWalk.i64_in _ (by omega)
 clear hRb
 by_cases hlt : m.R d < bank
 ·have b0 : decide (m.R d < bank) = true := decide_eq_true hlt
  have HLT := Lib.hid hlt
  clear hlt
  refine wp_region_flow (S := fun W => Below W3.heap.size W3 W) (by kernel_rfl) (by kernel_rfl) (Below.drew (Below.refl _ _)) ?_
  iterate 12
   apply Flow.step
   ·intro V2 K hS hK
    obtain ⟨i0, i1, i2, i3, i4, i5, i6⟩ := KC.out _ (HK4.out.trans (Keeps.of_below hS))
    obtain cR := HRD.out _ hS
    go_simp
    exact hK _ hS
   simp only [lQ]
  refine Flow.done ?_
  intro V2 hS
  clear b0 q0
  have q1 : IntKind.u16.wrap (2 * m.R d) = (2 * m.R d) % 65536 := by rw [IntKind.wrap_u16]
  have q2 : IntKind.u16.wrap (aux + (2 * m.R d) % 65536) = (aux + (2 * m.R d) % 65536) % 65536 := by rw [IntKind.wrap_u16]
  have HM5 := Lib.hid (HM4.out.next hS)
  have HRD5 : Hid (∀ W, Below V2.heap.size V2 W → W.cell? ⟨E.B, 7 + d, none⟩ = some (.int .u16 (m.R d))) := Lib.hid fun W hW => HRD.out _ (below_next hS hW)
  have HK5 := Lib.hid (HK4.out.trans (Keeps.of_below hS))
  clear hS
  go_upto_region 33 with (fail)
  refine' wp_region_flowR [[], [], [(182, 1)], [], [], [(185, 4)], [(184, 3)], [(187, 6)], [(188, 7)], [(189, 8), (186, 5)], [(190, 9)], [(191, 10)], [(183, 2), (192, 11)], [(181, 0), (182, 1), (183, 2), (184, 3), (185, 4), (186, 5), (187, 6), (188, 7), (189, 8), (190, 9), (191, 10), (192, 11), (193, 12)]] (relL [eqV _, eqV _, eqV _, eqV _, eqV _, eqV _, eqV _, eqV _, eqV _, eqV _, eqV _, eqV _, eqV _]) (by kernel_rfl) (by kernel_rfl) ?_
  rotate_left 13
  iterate 13
   refine FlowR.step ?_ ?_
   ·intro V3 hV
    simp only [Dep, lQ]
    repeat rintro _ ⟨_, rfl, _⟩
    intro K hK
    obtain ⟨i0, i1, i2, i3, i4, i5, i6⟩ := KC.out _ (HK5.out.trans (Keeps.of_below hV))
    obtain cR := (HM5.out.next hV).cell (7 + d) _ (mcells_getR E _ _ ov d HD.out)
    go_simp
    refine hK _ _ ?_ (Below.refl _ _)
    simp only [lR]
    exact rfl
  refine FlowR.last ?_
  intro V3 hV
  simp only [Dep, lQ]
  rintro x181 ⟨V181, rfl, hb181⟩
  rintro x182 ⟨V182, rfl, hb182⟩
  rintro x183 ⟨V183, rfl, hb183⟩
  rintro x184 ⟨V184, rfl, hb184⟩
  rintro x185 ⟨V185, rfl, hb185⟩
  rintro x186 ⟨V186, rfl, hb186⟩
  rintro x187 ⟨V187, rfl, hb187⟩
  rintro x188 ⟨V188, rfl, hb188⟩
  rintro x189 ⟨V189, rfl, hb189⟩
  rintro x190 ⟨V190, rfl, hb190⟩
  rintro x191 ⟨V191, rfl, hb191⟩
  rintro x192 ⟨V192, rfl, hb192⟩
  rintro x193 ⟨V193, rfl, hb193⟩
  intro K hK
  go_simp
  go_at_call 76
  refine (table_any (HM5.out.next hV) ((aux + (2 * m.R d) % 65536) % 65536) (by unfold OkU16; omega)).mono ?_
  intro e w9 hdone
  cases htb : tableM E (addPc m imm) ((aux + (2 * m.R d) % 65536) % 65536) with
  | error t =>
   unfold Done at hdone
   rw [htb] at hdone
   obtain ⟨rfl, ht⟩ := hdone
   exact ⟨rfl, tried_err (by unfold jtabM; rw [if_pos HLT.out, htb]) ⟨ht.at', ht.st, (Keeps.of_below HBel.out).trans ((HK5.out.trans (Keeps.of_below hV)).trans ht.keeps)⟩⟩
  | ok m' =>
   unfold Done at hdone
   rw [htb] at hdone
   obtain ⟨rfl, ht⟩ := hdone
   have HR : Hid (some (jtabM E m d imm aux bank) = some (.ok m')) := Lib.hid (by show some (jtabM E m d imm aux bank) = _; unfold jtabM; rw [if_pos HLT.out, htb])
   have HT := Lib.hid ht.at'
   have HK9 := Lib.hid ((Keeps.of_below HBel.out).trans ((HK5.out.trans (Keeps.of_below hV)).trans ht.keeps))
   clear ht
   refine hK _ _ ?_
   clear hK hV htb
   go_wp2_with fail
   exact bodyPost_ret (v := .bool true) (by simp [results, Tryz.results45, go_sem]) rfl (tried_ok HR.out ⟨HT.out, HK9.out⟩)
 ·have b0 : decide (m.R d < bank) = false := decide_eq_false hlt
  have HR : Hid (some (jtabM E m d imm aux bank) = some (.ok (addPc m imm))) := Lib.hid (by unfold jtabM; rw [if_neg hlt])
  clear hlt
  refine wp_region_flow (S := fun W => Below W3.heap.size W3 W) (by kernel_rfl) (by kernel_rfl) (Below.drew (Below.refl _ _)) ?_
  iterate 12
   apply Flow.step
   ·intro V2 K hS hK
    obtain ⟨i0, i1, i2, i3, i4, i5, i6⟩ := KC.out _ (HK4.out.trans (Keeps.of_below hS))
    obtain cR := HRD.out _ hS
    go_simp
    exact hK _ hS
   simp only [lQ]
  refine Flow.done ?_
  intro V2 hS
  have HM5 := Lib.hid (HM4.out.next hS)
  have HK5 := Lib.hid (HK4.out.trans (Keeps.of_below hS))
  clear hS
  go_wp2_with fail
  exact bodyPost_ret (v := .bool true) (by simp [results, Tryz.results45, go_sem]) rfl (tried_ok HR.out ⟨⟨_, _, HM5.out⟩, (Keeps.of_below HBel.out).trans HK5.out⟩)
set_option maxRecDepth 8000 in
set_option maxHeartbeats 4000000 in
theorem ctl_jmpi {E : Env} {V : World} {m : Mach} {sv ov : Value} (h : MachAt E V m sv ov) (d : Nat) (si imm aux bank size : Int) (hd : d < 8) (hi : OkU16 imm) (ha : OkU16 aux) (hb : OkI64 bank) : Calls Tryz.prog 45 #[.pointer (some ⟨E.B, 0, none⟩), .agg #[.int .i64 134, .int .i64 (d : Int), .int .i64 si, .int .u16 imm, .int .u16 aux, .int .i64 bank, .int .i64 size]] V (Tried E V m sv ov (some (jmpiM E m d imm))) := by
 obtain ⟨hI, HM, HBel, -⟩ := box26 h 134 d si imm aux bank size
 have HI := Lib.hid hI
 have H := Lib.hid h
 have HD := Lib.hid hd
 have HII := Lib.hid hi
 have HAX := Lib.hid ha
 have HBK := Lib.hid hb
 have d0 : (0 : Int) ≤ (d : Int) := by omega
 have d1 : (d : Int) < 8 := by omega
 have hw2 : IntKind.u16.wrap (m.pc + imm) = (m.pc + imm) % 65536 := by rw [IntKind.wrap_u16]
 clear h hI hd hi ha hb
 go_enter Tryz.func45, Tryz.ntmps45
 go_upto_region 1 with (fail)
 generalize V.alloc _ = W0 at *
 have KC := kcK (base := E.base) HI.out
 clear HI
 obtain ⟨i0, i1, i2, i3, i4, i5, i6⟩ := KC.out W0 (Keeps.refl _ _)
 have c15 := HM.out.cell 15 _ rfl
 clear hw2
 have q1 : IntKind.u16.wrap (2 * m.R d) = (2 * m.R d) % 65536 := by rw [IntKind.wrap_u16]
 have q2 : IntKind.u16.wrap (imm + (2 * m.R d) % 65536) = (imm + (2 * m.R d) % 65536) % 65536 := by rw [IntKind.wrap_u16]
 go_upto_region 35 with (fail)
 clear i0 i1 i2 i3 i4 i5 i6 c15
 refine' wp_region_flowR [[], [], [(198, 1)], [], [], [(201, 4)], [(200, 3)], [(203, 6)], [(204, 7)], [(205, 8), (202, 5)], [(206, 9)], [(207, 10)], [(199, 2), (208, 11)], [(197, 0), (198, 1), (199, 2), (200, 3), (201, 4), (202, 5), (203, 6), (204, 7), (205, 8), (206, 9), (207, 10), (208, 11), (209, 12)]] (relL [eqV _, eqV _, eqV _, eqV _, eqV _, eqV _, eqV _, eqV _, eqV _, eqV _, eqV _, eqV _, eqV _]) (by kernel_rfl) (by kernel_rfl) ?_
 rotate_left 13
 iterate 13
  refine FlowR.step ?_ ?_
  ·intro V3 hV
   simp only [Dep, lQ]
   repeat rintro _ ⟨_, rfl, _⟩
   intro K hK
   obtain ⟨i0, i1, i2, i3, i4, i5, i6⟩ := KC.out _ ((Keeps.refl E.base W0).trans (Keeps.of_below hV))
   obtain cR := (HM.out.next hV).cell (7 + d) _ (mcells_getR E _ _ ov d HD.out)
   go_simp
   refine hK _ _ ?_ (Below.refl _ _)
   simp only [lR]
   exact rfl
 refine FlowR.last ?_
 intro V3 hV
 simp only [Dep, lQ]
 rintro x197 ⟨V197, rfl, hb197⟩
 rintro x198 ⟨V198, rfl, hb198⟩
 rintro x199 ⟨V199, rfl, hb199⟩
 rintro x200 ⟨V200, rfl, hb200⟩
 rintro x201 ⟨V201, rfl, hb201⟩
 rintro x202 ⟨V202, rfl, hb202⟩
 rintro x203 ⟨V203, rfl, hb203⟩
 rintro x204 ⟨V204, rfl, hb204⟩
 rintro x205 ⟨V205, rfl, hb205⟩
 rintro x206 ⟨V206, rfl, hb206⟩
 rintro x207 ⟨V207, rfl, hb207⟩
 rintro x208 ⟨V208, rfl, hb208⟩
 rintro x209 ⟨V209, rfl, hb209⟩
 intro K hK
 go_simp
 go_at_call 76
 have ef : (imm + 2 * m.R d) % 65536 = ((imm + (2 * m.R d) % 65536) % 65536) := by omega
 rw [ef]
 refine (table_any (HM.out.next hV) ((imm + (2 * m.R d) % 65536) % 65536) (by unfold OkU16; omega)).mono ?_
 intro e w9 hdone
 cases htb : tableM E m ((imm + (2 * m.R d) % 65536) % 65536) with
 | error t =>
  unfold Done at hdone
  rw [htb] at hdone
  obtain ⟨rfl, ht⟩ := hdone
  exact ⟨rfl, tried_err (by unfold jmpiM; rw [htb]) ⟨ht.at', ht.st, (Keeps.of_below HBel.out).trans (((Keeps.refl E.base W0).trans (Keeps.of_below hV)).trans ht.keeps)⟩⟩
 | ok m' =>
  unfold Done at hdone
  rw [htb] at hdone
  obtain ⟨rfl, ht⟩ := hdone
  have HR : Hid (some (jmpiM E m d imm) = some (.ok m')) := Lib.hid (by show some (jmpiM E m d imm) = _; unfold jmpiM; rw [htb])
  have HT := Lib.hid ht.at'
  have HK9 := Lib.hid ((Keeps.of_below HBel.out).trans (((Keeps.refl E.base W0).trans (Keeps.of_below hV)).trans ht.keeps))
  clear ht
  refine hK _ _ ?_
  clear hK hV htb
  go_wp2_with fail
  exact bodyPost_ret (v := .bool true) (by simp [results, Tryz.results45, go_sem]) rfl (tried_ok HR.out ⟨HT.out, HK9.out⟩)
set_option maxRecDepth 8000 in
set_option maxHeartbeats 4000000 in
theorem ctl_jcc {E : Env} {V : World} {m : Mach} {sv ov : Value} (h : MachAt E V m sv ov) (op : Int) (d : Nat) (si imm aux bank size : Int) (hd : d < 8) (hi : OkU16 imm) (ha : OkU16 aux) (hb : OkI64 bank) (hop : 96 ≤ op ∧ op < 128) : Calls Tryz.prog 45 #[.pointer (some ⟨E.B, 0, none⟩), .agg #[.int .i64 op, .int .i64 (d : Int), .int .i64 si, .int .u16 imm, .int .u16 aux, .int .i64 bank, .int .i64 size]] V (Tried E V m sv ov (some (jccM m op imm))) := by
 obtain ⟨hI, HM, HBel, -⟩ := box26 h op d si imm aux bank size
 have HI := Lib.hid hI
 have H := Lib.hid h
 have HD := Lib.hid hd
 have HII := Lib.hid hi
 have HAX := Lib.hid ha
 have HBK := Lib.hid hb
 have d0 : (0 : Int) ≤ (d : Int) := by omega
 have d1 : (d : Int) < 8 := by omega
 clear h hI hd hi ha hb
 have n1 : (op == 1) = false := by rw [beq_eq_false_iff_ne]; omega
 have n3 : (op == 3) = false := by rw [beq_eq_false_iff_ne]; omega
 have n128 : (op == 128) = false := by rw [beq_eq_false_iff_ne]; omega
 have n129 : (op == 129) = false := by rw [beq_eq_false_iff_ne]; omega
 have n130 : (op == 130) = false := by rw [beq_eq_false_iff_ne]; omega
 have n132 : (op == 132) = false := by rw [beq_eq_false_iff_ne]; omega
 have n131 : (op == 131) = false := by rw [beq_eq_false_iff_ne]; omega
 have n133 : (op == 133) = false := by rw [beq_eq_false_iff_ne]; omega
 have n134 : (op == 134) = false := by rw [beq_eq_false_iff_ne]; omega
 have t1 : decide (op < 96) = false := decide_eq_false (by omega)
 have t2 : decide (128 ≤ op) = false := decide_eq_false (by omega)
 have q1 : op.tmod 16 = op % 16 := Int.tmod_eq_emod_of_nonneg (by omega)
 have q2 : IntKind.i64.wrap (op % 16) = op % 16 := IntWalk.i64_in _ (by omega)
 have HOP := Lib.hid hop
 clear hop
 go_enter Tryz.func45, Tryz.ntmps45
 go_upto_region 1 with (fail)
 generalize V.alloc _ = W0 at *
 have KC := kcK (base := E.base) HI.out
 clear HI
 obtain ⟨i0, i1, i2, i3, i4, i5, i6⟩ := KC.out W0 (Keeps.refl _ _)
 have c15 := HM.out.cell 15 _ rfl
 go_upto_region 5 with (fail)
 clear i0 i1 i2 i3 i4 i5 i6 c15
 clear n1 n3 n128 n129 n130 n132 n131 n133 n134 t1 t2
 have HF := Lib.hid H.out.ok.f
 refine' wp_region_flowR [[], [(22, 0)], [(23, 1)], [], [(25, 3)], [(26, 4)], [(27, 5)], [(28, 6)], [(22, 0), (23, 1), (24, 2), (25, 3), (26, 4), (27, 5), (28, 6), (29, 7)]] (relL [eqV _, eqV _, eqV _, eqV _, eqV _, eqV _, eqV _, eqV _]) (by kernel_rfl) (by kernel_rfl) ?_
 rotate_left 8
 iterate 8
  refine FlowR.step ?_ ?_
  ·intro V3 hV
   simp only [Dep, lQ]
   repeat rintro _ ⟨_, rfl, _⟩
   intro K hK
   obtain ⟨i0, i1, i2, i3, i4, i5, i6⟩ := KC.out _ (Keeps.of_below hV)
   obtain c18 := (HM.out.next hV).cell 18 _ rfl
   go_simp
   refine hK _ _ ?_ (Below.refl _ _)
   simp only [lR]
   exact rfl
 refine FlowR.last ?_
 intro V3 hV
 simp only [Dep, lQ]
 rintro x22 ⟨V22, rfl, hb22⟩
 rintro x23 ⟨V23, rfl, hb23⟩
 rintro x24 ⟨V24, rfl, hb24⟩
 rintro x25 ⟨V25, rfl, hb25⟩
 rintro x26 ⟨V26, rfl, hb26⟩
 rintro x27 ⟨V27, rfl, hb27⟩
 rintro x28 ⟨V28, rfl, hb28⟩
 rintro x29 ⟨V29, rfl, hb29⟩
 intro K hK
 go_simp
 go_at_call 77
 refine (cond_any (op % 16) m.f V3 HF.out.1 HF.out.2 (by have := HOP.out; omega) (by have := HOP.out; omega)).mono ?_
 rintro e w9 ⟨rfl, h9⟩
 have HM3 := Lib.hid (HM.out.next (below_next hV h9))
 have HK3 := Lib.hid (Keeps.of_below (base := E.base) (below_next hV h9))
 refine hK _ _ ?_
 clear hK hV h9 q1 q2
 cases hcd : condI (op % 16) m.f
 ·have HR : Hid (some (jccM m op imm) = some (.ok m)) := Lib.hid (by unfold jccM; rw [if_neg (by rw [hcd]; simp)])
  clear hcd
  go_wp2_with fail
  exact bodyPost_ret (v := .bool true) (by simp [results, Tryz.results45, go_sem]) rfl (tried_ok HR.out ⟨⟨_, _, HM3.out⟩, (Keeps.of_below HBel.out).trans HK3.out⟩)
 ·have HR : Hid (some (jccM m op imm) = some (.ok (addPc m imm))) := Lib.hid (by unfold jccM; rw [if_pos hcd])
  have hw : IntKind.u16.wrap (m.pc + imm) = (m.pc + imm) % 65536 := by rw [IntKind.wrap_u16]
  clear hcd
  go_upto_region 6 with (fail)
  refine' wp_region_flowR [[], [(31, 0)], [(32, 1)], [(33, 2)], [(34, 3)], [], [(36, 5)], [(35, 4), (37, 6)], [(31, 0)], [(39, 8)], [(40, 9)], [(31, 0), (32, 1), (33, 2), (34, 3), (35, 4), (36, 5), (37, 6), (38, 7), (39, 8), (40, 9), (41, 10)]] (relL [eqV _, eqV _, eqV _, eqV _, eqV _, eqV _, eqV _, eqV _, eqV _, eqV _, eqV _]) (by kernel_rfl) (by kernel_rfl) ?_
  rotate_left 11
  iterate 11
   refine FlowR.step ?_ ?_
   ·intro V3 hV
    simp only [Dep, lQ]
    repeat rintro _ ⟨_, rfl, _⟩
    intro K hK
    obtain ⟨i0, i1, i2, i3, i4, i5, i6⟩ := KC.out _ (HK3.out.trans (Keeps.of_below hV))
    obtain c15 := (HM3.out.next hV).cell 15 _ rfl
    go_simp
    refine hK _ _ ?_ (Below.refl _ _)
    simp only [lR]
    exact rfl
  refine FlowR.last ?_
  intro V3 hV
  simp only [Dep, lQ]
  rintro x31 ⟨V31, rfl, hb31⟩
  rintro x32 ⟨V32, rfl, hb32⟩
  rintro x33 ⟨V33, rfl, hb33⟩
  rintro x34 ⟨V34, rfl, hb34⟩
  rintro x35 ⟨V35, rfl, hb35⟩
  rintro x36 ⟨V36, rfl, hb36⟩
  rintro x37 ⟨V37, rfl, hb37⟩
  rintro x38 ⟨V38, rfl, hb38⟩
  rintro x39 ⟨V39, rfl, hb39⟩
  rintro x40 ⟨V40, rfl, hb40⟩
  rintro x41 ⟨V41, rfl, hb41⟩
  intro K hK
  have hM3 := HM3.out.next hV
  have c15 := hM3.cell 15 _ rfl
  have z15 := hM3.frz 15
  go_simp
  refine hK _ _ ?_
  have HM4 : Hid (MachAt E (V3.setCell ⟨E.B, 15, none⟩ (.int .u16 ((m.pc + imm) % 65536))) (addPc m imm) sv ov) := Lib.hid (hM3.setPc (by unfold OkU16; omega))
  have HK4 := Lib.hid ((HK3.out.trans (Keeps.of_below hV)).trans (hM3.putK 15 (.int .u16 ((m.pc + imm) % 65536))))
  clear hM3 c15 z15 hV hK
  go_wp2_with fail
  exact bodyPost_ret (v := .bool true) (by simp [results, Tryz.results45, go_sem]) rfl (tried_ok HR.out ⟨⟨_, _, HM4.out⟩, (Keeps.of_below HBel.out).trans HK4.out⟩)
set_option maxRecDepth 8000 in
set_option maxHeartbeats 4000000 in
theorem ctl_none {E : Env} {V : World} {m : Mach} {sv ov : Value} (h : MachAt E V m sv ov) (op : Int) (d : Nat) (si imm aux bank size : Int) (hd : d < 8) (hi : OkU16 imm) (ha : OkU16 aux) (hb : OkI64 bank) (hn : op ≠ 1 ∧ op ≠ 3 ∧ op ≠ 128 ∧ op ≠ 129 ∧ op ≠ 130 ∧ op ≠ 132 ∧ op ≠ 131 ∧ op ≠ 133 ∧ op ≠ 134) (hj : ¬ (96 ≤ op ∧ op < 128)) : Calls Tryz.prog 45 #[.pointer (some ⟨E.B, 0, none⟩), .agg #[.int .i64 op, .int .i64 (d : Int), .int .i64 si, .int .u16 imm, .int .u16 aux, .int .i64 bank, .int .i64 size]] V (Tried E V m sv ov (none)) := by
 obtain ⟨hI, HM, HBel, -⟩ := box26 h op d si imm aux bank size
 have HI := Lib.hid hI
 have H := Lib.hid h
 have HD := Lib.hid hd
 have HII := Lib.hid hi
 have HAX := Lib.hid ha
 have HBK := Lib.hid hb
 have d0 : (0 : Int) ≤ (d : Int) := by omega
 have d1 : (d : Int) < 8 := by omega
 clear h hI hd hi ha hb
 have n1 : (op == 1) = false := by rw [beq_eq_false_iff_ne]; omega
 have n3 : (op == 3) = false := by rw [beq_eq_false_iff_ne]; omega
 have n128 : (op == 128) = false := by rw [beq_eq_false_iff_ne]; omega
 have n129 : (op == 129) = false := by rw [beq_eq_false_iff_ne]; omega
 have n130 : (op == 130) = false := by rw [beq_eq_false_iff_ne]; omega
 have n132 : (op == 132) = false := by rw [beq_eq_false_iff_ne]; omega
 have n131 : (op == 131) = false := by rw [beq_eq_false_iff_ne]; omega
 have n133 : (op == 133) = false := by rw [beq_eq_false_iff_ne]; omega
 have n134 : (op == 134) = false := by rw [beq_eq_false_iff_ne]; omega
 go_enter Tryz.func45, Tryz.ntmps45
 go_upto_region 1 with (fail)
 generalize V.alloc _ = W0 at *
 have KC := kcK (base := E.base) HI.out
 clear HI
 obtain ⟨i0, i1, i2, i3, i4, i5, i6⟩ := KC.out W0 (Keeps.refl _ _)
 have c15 := HM.out.cell 15 _ rfl
 by_cases h96 : op < 96
 ·have t1 : decide (op < 96) = true := decide_eq_true h96
  clear hn hj h96
  go_wp2_with fail
  exact bodyPost_ret (v := .bool false) (by simp [results, Tryz.results45, go_sem]) rfl (tried_none rfl HBel.out)
 ·have t1 : decide (op < 96) = false := decide_eq_false h96
  have t2 : decide (128 ≤ op) = true := decide_eq_true (by omega)
  clear hn hj h96
  go_wp2_with fail
  exact bodyPost_ret (v := .bool false) (by simp [results, Tryz.results45, go_sem]) rfl (tried_none rfl HBel.out)
def controlM (E : Env) (m : Mach) (i : InsI) (d : Nat) : Option (Except (Int × Int) Mach) :=
 if i.op = 1 then some (retM m) else if i.op = 3 then some (iretM m) else if i.op = 128 ∨ i.op = 129 then some (.ok (addPc m i.imm)) else if i.op = 130 then some (callM m i.imm)
 else if i.op = 132 then some (callfM m i) else if i.op = 131 then some (.ok (farM m i)) else if i.op = 133 then some (jtabM E m d i.imm i.aux i.bank)
 else if i.op = 134 then some (jmpiM E m d i.imm) else if 96 ≤ i.op ∧ i.op < 128 then some (jccM m i.op i.imm) else none
theorem control_any {E : Env} {V : World} {m : Mach} {sv ov : Value} (h : MachAt E V m sv ov) (i : InsI) (d : Nat) (hid : i.d = d) (hd : d < 8) (hi : OkU16 i.imm) (ha : OkU16 i.aux) (hb : OkI64 i.bank) : Calls Tryz.prog 45 #[.pointer (some ⟨E.B, 0, none⟩), .agg #[.int .i64 i.op, .int .i64 i.d, .int .i64 i.s, .int .u16 i.imm, .int .u16 i.aux, .int .i64 i.bank, .int .i64 i.size]] V (Tried E V m sv ov (controlM E m i d)) := by
 obtain ⟨op, di, si, imm, aux, bank, size⟩ := i
 dsimp only at hid hi ha hb ⊢
 subst hid
 by_cases hj : 96 ≤ op ∧ op < 128
 ·have hz : controlM E m ⟨op, d, si, imm, aux, bank, size⟩ d = some (jccM m op imm) := by
   unfold controlM
   dsimp only
   rw [if_neg (by omega), if_neg (by omega), if_neg (by omega), if_neg (by omega), if_neg (by omega), if_neg (by omega), if_neg (by omega), if_neg (by omega), if_pos hj]
  rw [hz]
  exact ctl_jcc h op d si imm aux bank size hd hi ha hb hj
 by_cases hn : op ≠ 1 ∧ op ≠ 3 ∧ op ≠ 128 ∧ op ≠ 129 ∧ op ≠ 130 ∧ op ≠ 132 ∧ op ≠ 131 ∧ op ≠ 133 ∧ op ≠ 134
 ·have hz : controlM E m ⟨op, d, si, imm, aux, bank, size⟩ d = none := by
   unfold controlM
   dsimp only
   rw [if_neg (by omega), if_neg (by omega), if_neg (by omega), if_neg (by omega), if_neg (by omega), if_neg (by omega), if_neg (by omega), if_neg (by omega), if_neg hj]
  rw [hz]
  exact ctl_none h op d si imm aux bank size hd hi ha hb hn hj
 rcases (show op = 1 ∨ op = 3 ∨ op = 128 ∨ op = 129 ∨ op = 130 ∨ op = 132 ∨ op = 131 ∨ op = 133 ∨ op = 134 by omega) with rfl | rfl | rfl | rfl | rfl | rfl | rfl | rfl | rfl
 ·exact ctl_ret h d si imm aux bank size hd hi ha hb
 ·exact ctl_iret h d si imm aux bank size hd hi ha hb
 ·exact ctl_jmp h 128 d si imm aux bank size hd hi ha hb (.inl rfl)
 ·exact ctl_jmp h 129 d si imm aux bank size hd hi ha hb (.inr rfl)
 ·exact ctl_call h d si imm aux bank size hd hi ha hb
 ·exact ctl_callf h d si imm aux bank size hd hi ha hb
 ·exact ctl_jmpf h d si imm aux bank size hd hi ha hb
 ·exact ctl_jtab h d si imm aux bank size hd hi ha hb
 ·exact ctl_jmpi h d si imm aux bank size hd hi ha hb
end Go.Proofs.YtieaicdihingkaaGreat
