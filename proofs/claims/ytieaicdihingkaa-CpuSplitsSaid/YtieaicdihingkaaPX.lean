/- The plain law of CpuSplits: a run splits, and a trap repeats. -/
import Derived.Test.YtieaicdihingkaaHK
namespace Go.Proofs.Ytieaicdihingkaa
set_option linter.unusedVariables false
set_option linter.unusedSimpArgs false
open Go.RowKit
def Gd (r : Except (Int × Int) Mach) : Prop := match r with
 | .ok m => RamZ m
 | .error t => 1 ≤ t.1 ∧ t.1 ≤ 6
theorem gd_ok {m : Mach} (h : RamZ m) : Gd (.ok m) := h
theorem gd_err {k i : Int} (h0 : 1 ≤ k) (h1 : k ≤ 6) : Gd (.error (k, i)) := ⟨h0, h1⟩
theorem arithM_g {m : Mach} (h : RamZ m) (op : Int) (d : Nat) (b : Int) : Gd (arithM m op d b) := by
 unfold arithM
 repeat' split
 all_goals first | exact gd_ok h | exact gd_err (by decide) (by decide)
theorem loadM_g {m : Mach} (h : RamZ m) (a : Int) (n d : Nat) : Gd (loadM m a n d) := by
 unfold loadM; split <;> first | exact gd_ok h | exact gd_err (by decide) (by decide)
theorem conM_g {m : Mach} (E : Env) (h : RamZ m) (b a : Int) (n d : Nat) : Gd (conM E m b a n d) := by
 unfold conM; split <;> first | exact gd_ok h | exact gd_err (by decide) (by decide)
theorem ramBad_ok {a : Int} : ∀ {k n : Nat}, ramBad a k n = none → ∀ j, k ≤ j → j < k + n → 16384 ≤ (a + (j : Nat)) % 65536 ∧ (a + (j : Nat)) % 65536 < 24576
 | k, 0, h, j, h1, h2 => by omega
 | k, n + 1, h, j, h1, h2 => by
  unfold ramBad at h
  split at h
  ·rename_i hr
   rcases Nat.eq_or_lt_of_le h1 with e | e
   ·subst e
    exact hr
   ·exact ramBad_ok h j e (by omega)
  ·cases h
theorem setRam_z {r : Nat → Int} {j : Nat} {v : Int} (h : ∀ j, 8192 ≤ j → r j = 0) (hj : j < 8192) : ∀ i, 8192 ≤ i → setRam r j v i = 0 := fun i hi => by
 unfold setRam
 rw [if_neg (by omega)]
 exact h i hi
theorem storeM_g {m : Mach} (h : RamZ m) (a : Int) (n : Nat) (v : Int) (hn : n = 1 ∨ n = 2) : Gd (storeM m a n v) := by
 unfold storeM
 cases hb : ramBad a 0 n with
 | some x => exact gd_err (by decide) (by decide)
 | none =>
  have h0 := ramBad_ok hb 0 (Nat.le_refl _) (by omega)
  rcases hn with rfl | rfl
  ·exact gd_ok (m := { m with ram := _ }) (setRam_z h (by omega))
  ·have h1 := ramBad_ok hb 1 (by omega) (by omega)
   exact gd_ok (m := { m with ram := _ }) (setRam_z (setRam_z h (by omega)) (by omega))
def GdO (r : Option (Except (Int × Int) Mach)) : Prop := match r with
 | none => True
 | some r => Gd r
theorem gdO_ite {c : Prop} [Decidable c] {a b : Option (Except (Int × Int) Mach)} (h1 : GdO a) (h2 : GdO b) : GdO (if c then a else b) := by
 by_cases hc : c
 ·rw [if_pos hc]; exact h1
 ·rw [if_neg hc]; exact h2
theorem accessM_g {m : Mach} (E : Env) (h : RamZ m) (i : InsI) (d s : Nat) : GdO (accessM E m i d s) := by
 unfold accessM
 repeat refine gdO_ite (by first | exact loadM_g h _ _ _ | exact storeM_g h _ _ _ (.inl rfl) | exact storeM_g h _ _ _ (.inr rfl) | exact conM_g E h _ _ _ _) ?_
 exact True.intro
theorem stackM_g {m : Mach} (h : RamZ m) (i : InsI) (d : Nat) : GdO (stackM m i d) := by
 unfold stackM pushM popM enterM leaveM dropM ldM stM
 repeat' split
 all_goals first | exact gd_ok h | exact gd_err (by decide) (by decide) | exact True.intro
theorem tableM_g {m : Mach} (E : Env) (h : RamZ m) (a : Int) : Gd (tableM E m a) := by
 unfold tableM
 repeat' split
 all_goals first | exact gd_ok h | exact gd_err (by decide) (by decide)
theorem controlM_g {m : Mach} (E : Env) (h : RamZ m) (i : InsI) (d : Nat) : GdO (controlM E m i d) := by
 unfold controlM
 split
 ·show Gd (retM m); unfold retM; split <;> first | exact gd_ok h | exact gd_err (by decide) (by decide)
 split
 ·show Gd (iretM m); unfold iretM; split <;> first | exact gd_ok h | exact gd_err (by decide) (by decide)
 split
 ·exact gd_ok h
 split
 ·show Gd (callM m i.imm)
  unfold callM push2M
  by_cases hc : m.st.length + 2 ≤ 4096
  ·rw [if_pos hc]; exact gd_ok h
  ·rw [if_neg hc]; exact gd_err (by decide) (by decide)
 split
 ·show Gd (callfM m i)
  unfold callfM push2M
  by_cases hc : m.st.length + 2 ≤ 4096
  ·rw [if_pos hc]; exact gd_ok h
  ·rw [if_neg hc]; exact gd_err (by decide) (by decide)
 split
 ·exact gd_ok h
 split
 ·show Gd (jtabM E m d i.imm i.aux i.bank)
  unfold jtabM
  split
  ·exact tableM_g (m := addPc m i.imm) E h _
  ·exact gd_ok h
 split
 ·exact tableM_g E h _
 split
 ·show Gd (jccM m i.op i.imm); unfold jccM; split <;> exact gd_ok h
 ·exact True.intro
theorem restM_g {m : Mach} (E : Env) (h : RamZ m) (i : InsI) (d s : Nat) : Gd (restM E m i d s) := by
 have h1 := accessM_g E h i d s
 have h2 := stackM_g h i d
 have h3 := controlM_g E h i d
 unfold restM
 cases e1 : accessM E m i d s with
 | some r => rw [e1] at h1; exact h1
 | none =>
  dsimp only
  cases e2 : stackM m i d with
  | some r => rw [e2] at h2; exact h2
  | none =>
   dsimp only
   cases e3 : controlM E m i d with
   | some r => rw [e3] at h3; exact h3
   | none => exact gd_ok h
theorem execM_g {m : Mach} (E : Env) (h : RamZ m) (i : InsI) (d s : Nat) : Gd (execM E m i d s) := by
 unfold execM
 split
 ·exact gd_ok h
 split
 ·exact gd_err (by decide) (by decide)
 split
 ·unfold pollM
  repeat' split
  all_goals first | exact gd_ok h | exact gd_err (by decide) (by decide)
 split
 ·refine gd_ok ?_
  unfold portsM inM
  repeat' split
  all_goals exact h
 split
 ·exact gd_ok h
 split
 ·exact gd_ok h
 split
 ·exact arithM_g h _ _ _
 split
 ·exact arithM_g h _ _ _
 split
 ·exact arithM_g h _ _ _
 ·exact restM_g E h _ _ _
theorem fetchB_g {E : Env} {m : Mach} {k : Nat} {t : Int × Int} (h : fetchB E m k = .error t) : t.1 = 2 := by
 unfold fetchB at h
 repeat' split at h
 all_goals first | (cases h; done) | (cases h; rfl)
theorem fetchL_g {E : Env} {m : Mach} {t : Int × Int} : ∀ {k : Nat}, fetchL E m k = .error t → t.1 = 2
 | 0, h => by cases h
 | k + 1, h => by
  unfold fetchL at h
  cases h1 : fetchL E m k with
  | error u => rw [h1] at h; cases h; exact fetchL_g h1
  | ok l =>
   rw [h1] at h
   dsimp only at h
   cases h2 : fetchB E m k with
   | error u => rw [h2] at h; cases h; exact fetchB_g h2
   | ok c => rw [h2] at h; cases h
theorem fetchM_g {E : Env} {m : Mach} {t : Int × Int} (h : fetchM E m = .error t) : 1 ≤ t.1 ∧ t.1 ≤ 6 := by
 unfold fetchM at h
 split at h
 ·cases h; decide
 cases h1 : fetchL E m 1 with
 | error u => rw [h1] at h; cases h; have := fetchL_g h1; omega
 | ok l =>
  rw [h1] at h
  dsimp only at h
  cases h2 : fetchL E m (fetchN (l.headD 0)) with
  | error u => rw [h2] at h; cases h; have := fetchL_g h2; omega
  | ok l =>
   rw [h2] at h
   dsimp only at h
   split at h
   ·cases h
   ·cases h; decide
theorem stepM_g {m : Mach} (E : Env) (h : RamZ m) : Gd (stepM E m) := by
 unfold stepM
 cases hf : fetchM E m with
 | error t => exact fetchM_g hf
 | ok i =>
  dsimp only
  have h2 := execM_g (m := addPc m i.size) E h i i.d.toNat i.s.toNat
  cases he : execM E (addPc m i.size) i i.d.toNat i.s.toNat with
  | error t => rw [he] at h2; exact h2
  | ok m' => rw [he] at h2; exact h2
theorem stepM_sp {E : Env} {m m' : Mach} (h : stepM E m = .ok m') : m'.sp = (m'.st.length : Int) := by
 unfold stepM at h
 cases hf : fetchM E m with
 | error t => rw [hf] at h; cases h
 | ok i =>
  rw [hf] at h
  dsimp only at h
  cases he : execM E (addPc m i.size) i i.d.toNat i.s.toNat with
  | error t => rw [he] at h; cases h
  | ok m1 => rw [he] at h; cases h; rfl
theorem stepM_nz {E : Env} {m m' : Mach} (hm : NormZ m) (h : stepM E m = .ok m') : NormZ m' := by
 have := stepM_g E hm.z
 rw [h] at this
 exact ⟨this, stepM_sp h⟩
theorem runM_nz {E : Env} : ∀ (k : Nat) {m : Mach}, NormZ m → NormZ (runM E k m).1
 | 0, m, h => h
 | k + 1, m, h => by
  unfold runM
  cases hs : stepM E m with
  | ok m' => exact runM_nz k (stepM_nz h hs)
  | error t =>
   have := stepM_g E h.z
   rw [hs] at this
   have h9 : ¬ t.1 = 0 := by have := this.1; omega
   dsimp only
   rw [if_neg h9]
   exact h
theorem runM_err' {E : Env} {m : Mach} {t : Int × Int} (k : Nat) (hm : NormZ m) (hs : stepM E m = .error t) : runM E (k + 1) m = (m, t) ∧ t.1 ≠ 7 := by
 have := stepM_g E hm.z
 rw [hs] at this
 have h9 : ¬ t.1 = 0 := by have := this.1; omega
 constructor
 ·unfold runM
  rw [hs]
  exact if_neg h9
 ·have := this.2; omega
theorem runM_one {E : Env} {m m' : Mach} (hs : stepM E m = .ok m') (k : Nat) : runM E (k + 1) m = runM E k m' := by
 conv => lhs; unfold runM
 rw [hs]
theorem runM_done {E : Env} : ∀ (k : Nat) {m : Mach}, NormZ m → (runM E k m).2.1 = 7 → (runM E k m).2 = (7, 0)
 | 0, m, h, _ => rfl
 | k + 1, m, h, h7 => by
  cases hs : stepM E m with
  | ok m' =>
   have e : runM E (k + 1) m = runM E k m' := runM_one hs k
   rw [e] at h7 ⊢
   exact runM_done k (stepM_nz h hs) h7
  | error t =>
   obtain ⟨e, hn⟩ := runM_err' k h hs
   rw [e] at h7
   exact absurd h7 hn
/-- A run that uses up its number goes on where it stands. -/
theorem runM_split {E : Env} (b : Nat) : ∀ (a : Nat) {m : Mach}, NormZ m → (runM E a m).2.1 = 7 → runM E (a + b) m = runM E b (runM E a m).1
 | 0, m, h, _ => by rw [Nat.zero_add]; rfl
 | a + 1, m, h, h7 => by
  cases hs : stepM E m with
  | ok m' =>
   have e : ∀ k, runM E (k + 1) m = runM E k m' := runM_one hs
   rw [e] at h7 ⊢
   rw [show a + 1 + b = (a + b) + 1 by omega, e]
   exact runM_split b a (stepM_nz h hs) h7
  | error t =>
   obtain ⟨e, hn⟩ := runM_err' a h hs
   rw [e] at h7
   exact absurd h7 hn
/-- A run that traps: so does every longer run, and the trap repeats. -/
theorem runM_trap {E : Env} : ∀ (a : Nat) {m : Mach}, NormZ m → (runM E a m).2.1 ≠ 7 → (∀ b, runM E (a + b) m = runM E a m) ∧ (∀ n, runM E (n + 1) (runM E a m).1 = runM E a m)
 | 0, m, h, h7 => absurd rfl h7
 | a + 1, m, h, h7 => by
  cases hs : stepM E m with
  | ok m' =>
   have e : ∀ k, runM E (k + 1) m = runM E k m' := runM_one hs
   rw [e] at h7 ⊢
   obtain ⟨h1, h2⟩ := runM_trap a (stepM_nz h hs) h7
   refine ⟨fun b => ?_, h2⟩
   rw [show a + 1 + b = (a + b) + 1 by omega, e]
   exact h1 b
  | error t =>
   obtain ⟨e, hn⟩ := runM_err' a h hs
   refine ⟨fun b => ?_, fun n => ?_⟩
   ·rw [show a + 1 + b = (a + b) + 1 by omega, (runM_err' (a + b) h hs).1, e]
   ·rw [e]
    exact (runM_err' n h hs).1
end Go.Proofs.Ytieaicdihingkaa
