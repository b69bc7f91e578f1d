/- Plain: fetching from a bank. -/
import Derived.Test.YtieaicdihingkaaK28
namespace Go.Proofs.Ytieaicdihingkaa
set_option linter.unusedVariables false
set_option linter.unusedSimpArgs false
open Go.RowKit
/-- A whole bank lies at the addresses from base on. -/
def PageAt (E : Env) (bk : Int) (S : ByteArray) (base : Nat) : Prop := (base = 0 ∨ base = 4096) ∧ ∀ (m : Mach) (a : Nat), m.bank = bk → base ≤ a → a < base + 4096 → codeM E m (a : Int) = some (byteI S (a - base))
theorem page_at0 {E : Env} {S : ByteArray} (bk : Int) {l : List ByteArray} (hE : E.banks = S :: l) (hz : S.size = 4096) : PageAt E bk S 0 := by
  refine ⟨.inl rfl, fun m a hb h0 h1 => ?_⟩
  have h := codeM_in (E := E) (m := m) (a := a) (b := 0) (s := S) (if_neg (by omega)) ⟨by decide, by decide, .inl ⟨rfl, by omega⟩⟩ (by rw [hE]; simp) (by unfold bankAt; rw [hE]; rfl) (by omega) (by rw [hz]; omega)
  rw [h, show ((a : Int) % 4096).toNat = a by omega, Nat.sub_zero]
theorem page_at1 {E : Env} {S T : ByteArray} (hE : E.banks = [T, S]) (hz : S.size = 4096) : PageAt E 1 S 4096 := by
  refine ⟨.inr rfl, fun m a hb h0 h1 => ?_⟩
  have h := codeM_in (E := E) (m := m) (a := a) (b := 1) (s := S) (by rw [if_pos (by omega)]; exact hb) ⟨by decide, by decide, .inr ⟨by omega, by omega⟩⟩ (by rw [hE]; show (1 : Int) < 2; decide) (by unfold bankAt; rw [hE]; rfl) (by omega) (by rw [hz]; omega)
  rw [h, show ((a : Int) % 4096).toNat = a - 4096 by omega]
theorem fetchL_at {E : Env} {m : Mach} {S : ByteArray} {base p : Nat} (hP : PageAt E m.bank S base) (hp : m.pc = ((base + p : Nat) : Int)) : ∀ n, p + n ≤ 4096 → fetchL E m n = .ok (codeL S p n)
  | 0, _ => rfl
  | n + 1, h => by
    unfold fetchL
    rw [fetchL_at hP hp n (by omega)]
    have hb := hP.1
    have ha : fetchA m n = ((base + p + n : Nat) : Int) := by unfold fetchA; rw [hp]; omega
    have hf : fetchB E m n = .ok (byteI S (p + n)) := by
      unfold fetchB
      rw [ha, if_pos (by rw [hp]; omega), hP.2 m (base + p + n) rfl (by omega) (by omega), show base + p + n - base = p + n by omega]
    dsimp only
    rw [hf]
    unfold codeL
    rw [List.range_succ, List.map_append]
    rfl
theorem step_at {E : Env} {m : Mach} {S : ByteArray} {base p n : Nat} {i : InsI} (hP : PageAt E m.bank S base) (hp : m.pc = ((base + p : Nat) : Int)) (hn : p + n ≤ 4096) (h1 : 1 ≤ n) (hN : fetchN (byteI S p) = n) (hd : decI ⟨(bytesI (codeL S p n)).toArray⟩ = (i, 0)) :
    stepM E m = match execM E (addPc m i.size) i i.d.toNat i.s.toNat with | .error t => .error t | .ok m' => .ok { m' with steps := wrap64 (m'.steps + 1), sp := m'.st.length } := by
  have hf : fetchM E m = .ok i := by
    unfold fetchM
    have hb := hP.1
    rw [if_neg (by rw [hp]; omega), fetchL_at hP hp 1 (by omega)]
    dsimp only
    rw [show (codeL S p 1).headD 0 = byteI S p from rfl, hN, fetchL_at hP hp n hn]
    dsimp only
    rw [hd]
    exact if_pos rfl
  unfold stepM
  rw [hf]
  rfl
/-- The bytes at a place, and what they decode to. -/
theorem step_ok {E : Env} {m m' : Mach} {S : ByteArray} {base p : Nat} (l : List Int) (i : InsI) (hP : PageAt E m.bank S base) (hp : m.pc = ((base + p : Nat) : Int)) (hn : p + l.length ≤ 4096) (hl : codeL S p l.length = l) (hd : decide (1 ≤ l.length ∧ fetchN (l.headD 0) = l.length) = true) (hi : decI ⟨(bytesI l).toArray⟩ = (i, 0))
    (he : execM E (addPc m i.size) i i.d.toNat i.s.toNat = .ok m') : stepM E m = .ok { m' with steps := wrap64 (m'.steps + 1), sp := m'.st.length } := by
  obtain ⟨h1, h2⟩ := of_decide_eq_true hd
  have h3 : fetchN (byteI S p) = l.length := by
    rw [← h2]
    congr 1
    cases l with
    | nil => cases h1
    | cons x t =>
      have : (codeL S p (t.length + 1))[0]? = some x := by rw [show t.length + 1 = (x :: t).length from rfl, hl]; rfl
      unfold codeL at this
      simp at this
      exact this
  rw [step_at hP hp hn h1 h3 (by rw [hl]; exact hi), he]
theorem step_bad {E : Env} {m : Mach} {S : ByteArray} {base p : Nat} {t : Int × Int} (l : List Int) (i : InsI) (hP : PageAt E m.bank S base) (hp : m.pc = ((base + p : Nat) : Int)) (hn : p + l.length ≤ 4096) (hl : codeL S p l.length = l) (hd : decide (1 ≤ l.length ∧ fetchN (l.headD 0) = l.length) = true) (hi : decI ⟨(bytesI l).toArray⟩ = (i, 0))
    (he : execM E (addPc m i.size) i i.d.toNat i.s.toNat = .error t) : stepM E m = .error t := by
  obtain ⟨h1, h2⟩ := of_decide_eq_true hd
  have h3 : fetchN (byteI S p) = l.length := by
    rw [← h2]
    congr 1
    cases l with
    | nil => cases h1
    | cons x t =>
      have : (codeL S p (t.length + 1))[0]? = some x := by rw [show t.length + 1 = (x :: t).length from rfl, hl]; rfl
      unfold codeL at this
      simp at this
      exact this
  rw [step_at hP hp hn h1 h3 (by rw [hl]; exact hi), he]
theorem wrap_small (x : Int) (h0 : 0 ≤ x) (h1 : x < 1000000) : wrap64 x = x := by unfold wrap64; omega
theorem byteI_list (l : List UInt8) (j : Nat) : byteI ⟨l.toArray⟩ j = ((l[j]?.getD 0).toNat : Int) := by
  unfold byteI
  rfl
theorem byteI_app1 (a b : ByteArray) (j : Nat) (h : j < a.size) : byteI (a ++ b) j = byteI a j := by
  rw [← byteI_at (a ++ b) j (by rw [ByteArray.size_append]; omega), ← byteI_at a j h, ByteArray.getElem_append_left h]
theorem byteI_app2 (a b : ByteArray) (j : Nat) (h : j < b.size) : byteI (a ++ b) (a.size + j) = byteI b j := by
  rw [← byteI_at (a ++ b) (a.size + j) (by rw [ByteArray.size_append]; omega), ← byteI_at b j h, ByteArray.getElem_append_right (by omega)]
  congr 3
  omega
theorem byteI_cut (s : ByteArray) (e j : Nat) (h : j < e) (he : e ≤ s.size) : byteI (s.extract 0 e) j = byteI s j := by
  have h0 : j < (s.extract 0 e).size := by rw [ByteArray.size_extract]; omega
  rw [← byteI_at (s.extract 0 e) j h0, ← byteI_at s j (by omega), ByteArray.getElem_extract]
  congr 3
  omega
theorem codeL1 (c : ByteArray) (q : Nat) : codeL c q 1 = [byteI c q] := rfl
theorem codeL2 (c : ByteArray) (q : Nat) : codeL c q 2 = [byteI c q, byteI c (q + 1)] := rfl
theorem codeL3' (c : ByteArray) (q : Nat) : codeL c q 3 = [byteI c q, byteI c (q + 1), byteI c (q + 2)] := rfl
end Go.Proofs.Ytieaicdihingkaa
