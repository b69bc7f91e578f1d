/- Plain: fetching from a bank; the program of CpuPolls. -/
import Derived.Test.YtieaicdihingkaaK28
namespace Go.Proofs.Ytieaicdihingkaa
set_option linter.unusedVariables false
set_option linter.unusedSimpArgs false
open Go.RowKit
/-- A whole bank lies at the addresses from base on. -/
def PageAt (E : Env) (bk : Int) (S : ByteArray) (base : Nat) : Prop := (base = 0 ∨ base = 4096) ∧ ∀ (m : Mach) (a : Nat), m.bank = bk → base ≤ a → a < base + 4096 → codeM E m (a : Int) = some (byteI S (a - base))
theorem page_at0 {E : Env} {S : ByteArray} (bk : Int) {l : List ByteArray} (hE : E.banks = S :: l) (hz : S.size = 4096) : PageAt E bk S 0 := by
  refine ⟨.inl rfl, fun m a hb h0 h1 => ?_⟩
  have h := codeM_in (E := E) (m := m) (a := a) (b := 0) (s := S) (if_neg (by omega)) ⟨by decide, by decide, .inl ⟨rfl, by omega⟩⟩ (by rw [hE]; simp) (by unfold bankAt; rw [hE]; rfl) (by omega) (by rw [hz]; omega)
  rw [h, show ((a : Int) % 4096).toNat = a by omega, Nat.sub_zero]
theorem page_at1 {E : Env} {S T : ByteArray} (hE : E.banks = [T, S]) (hz : S.size = 4096) : PageAt E 1 S 4096 := by
  refine ⟨.inr rfl, fun m a hb h0 h1 => ?_⟩
  have h := codeM_in (E := E) (m := m) (a := a) (b := 1) (s := S) (by rw [if_pos (by omega)]; exact hb) ⟨by decide, by decide, .inr ⟨by omega, by omega⟩⟩ (by rw [hE]; show (1 : Int) < 2; decide) (by unfold bankAt; rw [hE]; rfl) (by omega) (by rw [hz]; omega)
  rw [h, show ((a : Int) % 4096).toNat = a - 4096 by omega]
theorem fetchL_at {E : Env} {m : Mach} {S : ByteArray} {base p : Nat} (hP : PageAt E m.bank S base) (hp : m.pc = ((base + p : Nat) : Int)) : ∀ n, p + n ≤ 4096 → fetchL E m n = .ok (codeL S p n)
  | 0, _ => rfl
  | n + 1, h => by
    unfold fetchL
    rw [fetchL_at hP hp n (by omega)]
    have hb := hP.1
    have ha : fetchA m n = ((base + p + n : Nat) : Int) := by unfold fetchA; rw [hp]; omega
    have hf : fetchB E m n = .ok (byteI S (p + n)) := by
      unfold fetchB
      rw [ha, if_pos (by rw [hp]; omega), hP.2 m (base + p + n) rfl (by omega) (by omega), show base + p + n - base = p + n by omega]
    dsimp only
    rw [hf]
    unfold codeL
    rw [List.range_succ, List.map_append]
    rfl
theorem step_at {E : Env} {m : Mach} {S : ByteArray} {base p n : Nat} {i : InsI} (hP : PageAt E m.bank S base) (hp : m.pc = ((base + p : Nat) : Int)) (hn : p + n ≤ 4096) (h1 : 1 ≤ n) (hN : fetchN (byteI S p) = n) (hd : decI ⟨(bytesI (codeL S p n)).toArray⟩ = (i, 0)) :
    stepM E m = match execM E (addPc m i.size) i i.d.toNat i.s.toNat with | .error t => .error t | .ok m' => .ok { m' with steps := wrap64 (m'.steps + 1), sp := m'.st.length } := by
  have hf : fetchM E m = .ok i := by
    unfold fetchM
    have hb := hP.1
    rw [if_neg (by rw [hp]; omega), fetchL_at hP hp 1 (by omega)]
    dsimp only
    rw [show (codeL S p 1).headD 0 = byteI S p from rfl, hN, fetchL_at hP hp n hn]
    dsimp only
    rw [hd]
    exact if_pos rfl
  unfold stepM
  rw [hf]
  rfl
/-- The bytes at a place, and what they decode to. -/
theorem step_ok {E : Env} {m m' : Mach} {S : ByteArray} {base p : Nat} (l : List Int) (i : InsI) (hP : PageAt E m.bank S base) (hp : m.pc = ((base + p : Nat) : Int)) (hn : p + l.length ≤ 4096) (hl : codeL S p l.length = l) (hd : decide (1 ≤ l.length ∧ fetchN (l.headD 0) = l.length) = true) (hi : decI ⟨(bytesI l).toArray⟩ = (i, 0))
    (he : execM E (addPc m i.size) i i.d.toNat i.s.toNat = .ok m') : stepM E m = .ok { m' with steps := wrap64 (m'.steps + 1), sp := m'.st.length } := by
  obtain ⟨h1, h2⟩ := of_decide_eq_true hd
  have h3 : fetchN (byteI S p) = l.length := by
    rw [← h2]
    congr 1
    cases l with
    | nil => cases h1
    | cons x t =>
      have : (codeL S p (t.length + 1))[0]? = some x := by rw [show t.length + 1 = (x :: t).length from rfl, hl]; rfl
      unfold codeL at this
      simp at this
      exact this
  rw [step_at hP hp hn h1 h3 (by rw [hl]; exact hi), he]
theorem step_bad {E : Env} {m : Mach} {S : ByteArray} {base p : Nat} {t : Int × Int} (l : List Int) (i : InsI) (hP : PageAt E m.bank S base) (hp : m.pc = ((base + p : Nat) : Int)) (hn : p + l.length ≤ 4096) (hl : codeL S p l.length = l) (hd : decide (1 ≤ l.length ∧ fetchN (l.headD 0) = l.length) = true) (hi : decI ⟨(bytesI l).toArray⟩ = (i, 0))
    (he : execM E (addPc m i.size) i i.d.toNat i.s.toNat = .error t) : stepM E m = .error t := by
  obtain ⟨h1, h2⟩ := of_decide_eq_true hd
  have h3 : fetchN (byteI S p) = l.length := by
    rw [← h2]
    congr 1
    cases l with
    | nil => cases h1
    | cons x t =>
      have : (codeL S p (t.length + 1))[0]? = some x := by rw [show t.length + 1 = (x :: t).length from rfl, hl]; rfl
      unfold codeL at this
      simp at this
      exact this
  rw [step_at hP hp hn h1 h3 (by rw [hl]; exact hi), he]
theorem wrap_small (x : Int) (h0 : 0 ≤ x) (h1 : x < 1000000) : wrap64 x = x := by unfold wrap64; omega
theorem byteI_list (l : List UInt8) (j : Nat) : byteI ⟨l.toArray⟩ j = ((l[j]?.getD 0).toNat : Int) := by
  unfold byteI
  rfl
theorem byteI_app1 (a b : ByteArray) (j : Nat) (h : j < a.size) : byteI (a ++ b) j = byteI a j := by
  rw [← byteI_at (a ++ b) j (by rw [ByteArray.size_append]; omega), ← byteI_at a j h, ByteArray.getElem_append_left h]
theorem byteI_app2 (a b : ByteArray) (j : Nat) (h : j < b.size) : byteI (a ++ b) (a.size + j) = byteI b j := by
  rw [← byteI_at (a ++ b) (a.size + j) (by rw [ByteArray.size_append]; omega), ← byteI_at b j h, ByteArray.getElem_append_right (by omega)]
  congr 3
  omega
theorem byteI_cut (s : ByteArray) (e j : Nat) (h : j < e) (he : e ≤ s.size) : byteI (s.extract 0 e) j = byteI s j := by
  have h0 : j < (s.extract 0 e).size := by rw [ByteArray.size_extract]; omega
  rw [← byteI_at (s.extract 0 e) j h0, ← byteI_at s j (by omega), ByteArray.getElem_extract]
  congr 3
  omega
def pollsB (n : Nat) : ByteArray := ⟨(List.replicate n (4 : UInt8) ++ [4, 2]).toArray⟩
def handB : ByteArray := ⟨#[145, 2, 5, 48, 2, 99, 18, 1, 3]⟩
/-- The bank of CpuPolls. -/
def pollsP (n : Nat) : ByteArray := (pageB 0 (pollsB n)).extract 0 100 ++ handB ++ (pageB 0 (pollsB n)).extract 109 4096
theorem pollsP_size (n : Nat) : (pollsP n).size = 4096 := by
  unfold pollsP
  rw [ByteArray.size_append, ByteArray.size_append, ByteArray.size_extract, ByteArray.size_extract, pageB_size]
  rfl
theorem pollsP_code (n j : Nat) (h : j < 100) : byteI (pollsP n) j = byteI (pollsB n) j := by
  unfold pollsP
  have z1 : ((pageB 0 (pollsB n)).extract 0 100).size = 100 := by rw [ByteArray.size_extract, pageB_size]; rfl
  rw [byteI_app1 _ _ _ (by rw [ByteArray.size_append, z1]; omega), byteI_app1 _ _ _ (by rw [z1]; omega), byteI_cut _ _ _ h (by rw [pageB_size]; decide), byteI_page _ _ _ (by omega)]
  unfold pageI
  rw [if_pos (Nat.zero_le _), Nat.sub_zero]
theorem pollsP_hand (n j : Nat) (h : j < 9) : byteI (pollsP n) (100 + j) = byteI handB j := by
  unfold pollsP
  have z1 : ((pageB 0 (pollsB n)).extract 0 100).size = 100 := by rw [ByteArray.size_extract, pageB_size]; rfl
  rw [byteI_app1 _ _ _ (by rw [ByteArray.size_append, z1]; show 100 + j < 100 + 9; omega)]
  have := byteI_app2 ((pageB 0 (pollsB n)).extract 0 100) handB j h
  rw [z1] at this
  exact this
theorem pollsB_at (n j : Nat) (h : j ≤ n) : byteI (pollsB n) j = 4 := by
  unfold pollsB
  rw [byteI_list]
  rcases Nat.lt_or_ge j n with h1 | h1
  · rw [List.getElem?_append_left (by simpa using h1), List.getElem?_replicate, if_pos h1]; rfl
  · obtain rfl : j = n := by omega
    rw [List.getElem?_append_right (by simp)]; simp
theorem pollsB_last (n : Nat) : byteI (pollsB n) (n + 1) = 2 := by
  unfold pollsB
  rw [byteI_list, List.getElem?_append_right (by simp)]
  simp
theorem codeL1 (c : ByteArray) (q : Nat) : codeL c q 1 = [byteI c q] := rfl
theorem codeL2 (c : ByteArray) (q : Nat) : codeL c q 2 = [byteI c q, byteI c (q + 1)] := rfl
theorem codeL3' (c : ByteArray) (q : Nat) : codeL c q 3 = [byteI c q, byteI c (q + 1), byteI c (q + 2)] := rfl
/-- The machine before the poll k, after some steps. -/
def qm (R : Nat → Int) (f : Int) (k : Nat) (s : Int) (o : List (Int × Int)) : Mach :=
  { startM 0 with R := R, f := f, fp := 321, pc := (k : Int), polls := (k : Int), steps := s, out := o }
def qst (R : Nat → Int) (f : Int) (k : Nat) : List Int := [0, 65535, 0, ((k + 1 : Nat) : Int), f, 321, R 0, R 1, R 2, R 3, R 4, R 5, R 6, R 7]
def qh (R : Nat → Int) (f : Int) (k : Nat) (s : Int) (o : List (Int × Int)) (R' : Nat → Int) (f' pc : Int) : Mach :=
  { startM 0 with R := R', f := f', fp := 321, pc := pc, polls := ((k + 1 : Nat) : Int), steps := s, out := o, st := qst R f k, sp := 14 }
structure PollsE (E : Env) (n : Nat) (l : List Int) : Prop where
  banks : E.banks = [pollsP n]
  len : n ≤ 12
  vec : E.vector = 100
  irq : E.tirq = l
  ln : l.length = n
theorem PollsE.page {E : Env} {n : Nat} {l : List Int} (h : PollsE E n l) : PageAt E 0 (pollsP n) 0 := page_at0 0 h.banks (pollsP_size n)
theorem poll_code {n k : Nat} (hk : k ≤ n) (hn : n ≤ 12) : codeL (pollsP n) k 1 = [4] := by
  rw [codeL1, pollsP_code n k (by omega), pollsB_at n k hk]
theorem polls_zero {E : Env} {n k : Nat} {l : List Int} {R : Nat → Int} {f s : Int} {o : List (Int × Int)} (h : PollsE E n l) (hk : k < n) (hq : l[k]? = some 0) (s0 : 0 ≤ s) (s1 : s < 1000) : stepM E (qm R f k s o) = .ok (qm R f (k + 1) (s + 1) o) := by
  have he : execM E (addPc (qm R f k s o) 1) ⟨4, 0, 0, 0, 0, 0, 1⟩ 0 0 = .ok { qm R f (k + 1) s o with pc := ((k : Int) + 1) % 65536 } := by
    show pollM E (addPc (qm R f k s o) 1) = _
    unfold pollM
    rw [show (max (addPc (qm R f k s o) 1).polls 0).toNat = k from by show (max (k : Int) 0).toNat = k; omega, h.irq, hq]
    dsimp only
    rw [if_pos (.inl rfl)]
    unfold polled
    rw [show max (addPc (qm R f k s o) 1).polls 0 + 1 = ((k + 1 : Nat) : Int) from by show max (k : Int) 0 + 1 = _; omega]
    rfl
  rw [step_ok (p := k) [4] ⟨4, 0, 0, 0, 0, 0, 1⟩ h.page (by rw [Nat.zero_add]; rfl) (by have := h.len; simp; omega) (poll_code (by omega) h.len) (by kernel_rfl) (by kernel_rfl) he]
  have := h.len
  have e1 : ((k : Int) + 1) % 65536 = ((k + 1 : Nat) : Int) := by omega
  show Except.ok ({ qm R f (k + 1) s o with pc := ((k : Int) + 1) % 65536, steps := wrap64 (s + 1), sp := ((2 : Nat) : Int) } : Mach) = _
  rw [e1, wrap_small (s + 1) (by omega) (by omega)]
  rfl
theorem polls_push {E : Env} {n k : Nat} {l : List Int} {R : Nat → Int} {f s q : Int} {o : List (Int × Int)} (h : PollsE E n l) (hk : k < n) (hq : l[k]? = some q) (q0 : q ≠ 0) (s0 : 0 ≤ s) (s1 : s < 1000) : stepM E (qm R f k s o) = .ok (qh R f k (s + 1) o R f 100) := by
  have := h.len
  have e1 : ((k : Int) + 1) % 65536 = ((k + 1 : Nat) : Int) := by omega
  have he : execM E (addPc (qm R f k s o) 1) ⟨4, 0, 0, 0, 0, 0, 1⟩ 0 0 = .ok { qh R f k s o R f 100 with sp := 2 } := by
    show pollM E (addPc (qm R f k s o) 1) = _
    unfold pollM
    rw [show (max (addPc (qm R f k s o) 1).polls 0).toNat = k from by show (max (k : Int) 0).toNat = k; omega, h.irq, hq]
    dsimp only
    rw [if_neg (by rw [h.vec]; intro e; rcases e with e | e; exact q0 e; exact absurd e (by decide)), if_pos (by show 2 + 12 ≤ 4096; decide)]
    unfold polled
    rw [show max (addPc (qm R f k s o) 1).polls 0 + 1 = ((k + 1 : Nat) : Int) from by show max (k : Int) 0 + 1 = _; omega, h.vec]
    have e2 : pollL (addPc (qm R f k s o) 1) = qst R f k := by
      show [0, 65535, (0 : Int) % 65536, ((k : Int) + 1) % 65536, f, 321, R 0, R 1, R 2, R 3, R 4, R 5, R 6, R 7] = _
      rw [e1]
      rfl
    rw [e2]
    rfl
  rw [step_ok (p := k) [4] ⟨4, 0, 0, 0, 0, 0, 1⟩ h.page (by rw [Nat.zero_add]; rfl) (by simp; omega) (poll_code (by omega) h.len) (by kernel_rfl) (by kernel_rfl) he]
  show Except.ok ({ qh R f k s o R f 100 with steps := wrap64 (s + 1), sp := ((14 : Nat) : Int) } : Mach) = _
  rw [wrap_small (s + 1) (by omega) (by omega)]
  rfl
theorem hand3 (n : Nat) (j : Nat) (h : j + 2 < 9) : codeL (pollsP n) (100 + j) 3 = [byteI handB j, byteI handB (j + 1), byteI handB (j + 2)] := by
  rw [codeL3', pollsP_hand n j (by omega), show 100 + j + 1 = 100 + (j + 1) by omega, pollsP_hand n (j + 1) (by omega), show 100 + j + 2 = 100 + (j + 2) by omega, pollsP_hand n (j + 2) h]
theorem hand_out {E : Env} {n k : Nat} {l : List Int} {R R' : Nat → Int} {f f' s : Int} {o : List (Int × Int)} (h : PollsE E n l) (s0 : 0 ≤ s) (s1 : s < 1000) : stepM E (qh R f k s o R' f' 100) = .ok (qh R f k (s + 1) (o ++ [(5, R' 2)]) R' f' 103) := by
  rw [step_ok (p := 100) (m' := qh R f k s (o ++ [(5, R' 2)]) R' f' 103) [145, 2, 5] ⟨145, 2, 0, 5, 0, 0, 3⟩ h.page (by rfl) (by decide) ((hand3 n 0 (by decide)).trans (by kernel_rfl)) (by kernel_rfl) (by kernel_rfl) (by rfl)]
  show Except.ok ({ qh R f k s (o ++ [(5, R' 2)]) R' f' 103 with steps := wrap64 (s + 1), sp := ((14 : Nat) : Int) } : Mach) = _
  rw [wrap_small (s + 1) (by omega) (by omega)]
  rfl
theorem hand_mov {E : Env} {n k : Nat} {l : List Int} {R R' : Nat → Int} {f f' s : Int} {o : List (Int × Int)} (h : PollsE E n l) (s0 : 0 ≤ s) (s1 : s < 1000) : stepM E (qh R f k s o R' f' 103) = .ok (qh R f k (s + 1) o (setR R' 2 99) f' 106) := by
  rw [step_ok (p := 103) (m' := qh R f k s o (setR R' 2 99) f' 106) [48, 2, 99] ⟨48, 2, 0, 99, 0, 0, 3⟩ h.page (by rfl) (by decide) ((hand3 n 3 (by decide)).trans (by kernel_rfl)) (by kernel_rfl) (by kernel_rfl) (by rfl)]
  show Except.ok ({ qh R f k s o (setR R' 2 99) f' 106 with steps := wrap64 (s + 1), sp := ((14 : Nat) : Int) } : Mach) = _
  rw [wrap_small (s + 1) (by omega) (by omega)]
  rfl
theorem hand_neg {E : Env} {n k : Nat} {l : List Int} {R R' : Nat → Int} {f f' s : Int} {o : List (Int × Int)} (h : PollsE E n l) (s0 : 0 ≤ s) (s1 : s < 1000) : stepM E (qh R f k s o R' f' 106) = .ok (qh R f k (s + 1) o (setR R' 1 (subR 0 (R' 1) true)) (subF 0 (R' 1) true) 108) := by
  have hc : codeL (pollsP n) 106 2 = [18, 1] := by
    rw [codeL2, show (106 : Nat) = 100 + 6 from rfl, pollsP_hand n 6 (by decide), show 100 + 6 + 1 = 100 + 7 from rfl, pollsP_hand n 7 (by decide)]
    kernel_rfl
  rw [step_ok (p := 106) (m' := qh R f k s o (setR R' 1 (subR 0 (R' 1) true)) (subF 0 (R' 1) true) 108) [18, 1] ⟨18, 1, 0, 0, 0, 0, 2⟩ h.page (by rfl) (by decide) hc (by kernel_rfl) (by kernel_rfl) (by rfl)]
  show Except.ok ({ qh R f k s o (setR R' 1 (subR 0 (R' 1) true)) (subF 0 (R' 1) true) 108 with steps := wrap64 (s + 1), sp := ((14 : Nat) : Int) } : Mach) = _
  rw [wrap_small (s + 1) (by omega) (by omega)]
  rfl
theorem hand_iret {E : Env} {n k : Nat} {l : List Int} {R R' : Nat → Int} {f f' s : Int} {o : List (Int × Int)} (h : PollsE E n l) (s0 : 0 ≤ s) (s1 : s < 1000) (hf : 0 ≤ f ∧ f < 16) (hR : ∀ i, 8 ≤ i → R' i = R i) : stepM E (qh R f k s o R' f' 108) = .ok (qm R f (k + 1) (s + 1) o) := by
  have hc : codeL (pollsP n) 108 1 = [3] := by
    rw [codeL1, show (108 : Nat) = 100 + 8 from rfl, pollsP_hand n 8 (by decide)]
    kernel_rfl
  have hr : regsI (addPc (qh R f k s o R' f' 108) 1) 8 = R := by
    funext i
    unfold regsI
    by_cases hi : i < 8
    · rw [if_pos (by omega)]
      have hst : (addPc (qh R f k s o R' f' 108) 1).st = qst R f k := rfl
      rw [hst]
      match i, hi with
      | 0, _ => rfl
      | 1, _ => rfl
      | 2, _ => rfl
      | 3, _ => rfl
      | 4, _ => rfl
      | 5, _ => rfl
      | 6, _ => rfl
      | 7, _ => rfl
      | j + 8, hj => omega
    · rw [if_neg (by omega)]
      exact hR i (by omega)
  have hff : f % 16 = f := by omega
  have he : execM E (addPc (qh R f k s o R' f' 108) 1) ⟨3, 0, 0, 0, 0, 0, 1⟩ 0 0 = .ok { qm R f (k + 1) s o with sp := 14 } := by
    show iretM (addPc (qh R f k s o R' f' 108) 1) = _
    unfold iretM
    rw [if_pos (by show 12 ≤ 14; decide), hr]
    show Except.ok ({ qm R f (k + 1) s o with sp := 14, f := f % 16 } : Mach) = _
    rw [hff]
    rfl
  rw [step_ok (p := 108) [3] ⟨3, 0, 0, 0, 0, 0, 1⟩ h.page (by rfl) (by decide) hc (by kernel_rfl) (by kernel_rfl) he]
  show Except.ok ({ qm R f (k + 1) s o with steps := wrap64 (s + 1), sp := ((2 : Nat) : Int) } : Mach) = _
  rw [wrap_small (s + 1) (by omega) (by omega)]
  rfl
/-- The number of elements from the place k on that are not 0. -/
def wantI (l : List Int) : Nat := (l.filter fun x => decide (x ≠ 0)).length
theorem polls_rounds {E : Env} {n : Nat} {l : List Int} {R : Nat → Int} {f : Int} (h : PollsE E n l) (hf : 0 ≤ f ∧ f < 16) (K : Nat) :
    ∀ (d k : Nat) (s : Int) (o : List (Int × Int)), k + d = n → 0 ≤ s → s ≤ 5 * k → ∃ (s' : Int) (c : Nat), 0 ≤ s' ∧ s' ≤ 5 * n ∧ c ≤ 5 * d ∧ ∀ K, runM E (K + c) (qm R f k s o) = runM E K (qm R f n s' (o ++ List.replicate (wantI (l.drop k)) (5, R 2)))
  | 0, k, s, o, hk, h0, h1 => by
    obtain rfl : k = n := by omega
    refine ⟨s, 0, h0, h1, by omega, fun K => ?_⟩
    rw [List.drop_of_length_le (by rw [h.ln]; omega)]
    show runM E K _ = runM E K (qm R f k s (o ++ []))
    rw [List.append_nil]
  | d + 1, k, s, o, hk, h0, h1 => by
    have hn := h.len
    have hkl : k < l.length := by rw [h.ln]; omega
    obtain ⟨q, hq⟩ : ∃ q, l[k]? = some q := ⟨l[k], List.getElem?_eq_getElem hkl⟩
    have hdr : l.drop k = q :: l.drop (k + 1) := by
      rw [List.drop_eq_getElem_cons hkl]
      congr 1
      have := List.getElem?_eq_getElem hkl
      rw [hq] at this
      exact (Option.some.inj this).symm
    by_cases hz : q = 0
    · subst hz
      obtain ⟨s', c, a1, a2, a3, a4⟩ := polls_rounds (R := R) h hf K d (k + 1) (s + 1) o (by omega) (by omega) (by omega)
      refine ⟨s', c + 1, a1, a2, by omega, fun K => ?_⟩
      rw [show K + (c + 1) = (K + c) + 1 by omega, runM_ok (polls_zero h (by omega) hq h0 (by omega)), a4 K, hdr]
      rfl
    · obtain ⟨s', c, a1, a2, a3, a4⟩ := polls_rounds (R := R) h hf K d (k + 1) (s + 5) (o ++ [(5, R 2)]) (by omega) (by omega) (by omega)
      refine ⟨s', c + 5, a1, a2, by omega, fun K => ?_⟩
      rw [show K + (c + 5) = (K + c) + 4 + 1 by omega, runM_ok (polls_push h (by omega) hq hz h0 (by omega)), runM_ok (hand_out h (by omega) (by omega)), runM_ok (hand_mov h (by omega) (by omega)), runM_ok (hand_neg h (by omega) (by omega)),
        runM_ok (hand_iret h (by omega) (by omega) hf (fun i hi => by unfold setR; rw [if_neg (by omega), if_neg (by omega)])), show s + 1 + 1 + 1 + 1 + 1 = s + 5 by omega, a4 K, hdr]
      have : wantI (q :: l.drop (k + 1)) = wantI (l.drop (k + 1)) + 1 := by
        unfold wantI
        rw [List.filter_cons_of_pos (by simpa using hz)]
        rfl
      rw [this, List.replicate_succ, List.append_assoc]
      rfl
/-- The machine at the end. -/
def qend (R : Nat → Int) (f : Int) (n : Nat) (s : Int) (w : Nat) : Mach := { qm R f n s (List.replicate w (5, R 2)) with pc := ((n + 1 : Nat) : Int) }
theorem polls_run {E : Env} {n : Nat} {l : List Int} {R : Nat → Int} {f : Int} (h : PollsE E n l) (hf : 0 ≤ f ∧ f < 16) : ∃ s : Int, 0 ≤ s ∧ s ≤ 100 ∧ runM E 1000 (qm R f 0 0 []) = (qend R f n s (wantI l), (1, 0)) := by
  have hn := h.len
  obtain ⟨s, c, a1, a2, a3, a4⟩ := polls_rounds (R := R) h hf 0 n 0 0 [] (by omega) (by omega) (by omega)
  refine ⟨s + 1, by omega, by omega, ?_⟩
  rw [show (1000 : Nat) = (998 - c) + 1 + 1 + c by omega, a4, List.nil_append, List.drop_zero]
  have hs : stepM E (qm R f n s (List.replicate (wantI l) (5, R 2))) = .ok (qend R f n (s + 1) (wantI l)) := by
    have he : execM E (addPc (qm R f n s (List.replicate (wantI l) (5, R 2))) 1) ⟨4, 0, 0, 0, 0, 0, 1⟩ 0 0 = .ok (addPc (qm R f n s (List.replicate (wantI l) (5, R 2))) 1) := by
      show pollM E _ = _
      unfold pollM
      rw [show (max (addPc (qm R f n s (List.replicate (wantI l) (5, R 2))) 1).polls 0).toNat = n from by show (max (n : Int) 0).toNat = n; omega, h.irq, List.getElem?_eq_none (by rw [h.ln]; omega)]
    rw [step_ok (p := n) [4] ⟨4, 0, 0, 0, 0, 0, 1⟩ h.page (by rw [Nat.zero_add]; rfl) (by simp; omega) (poll_code (by omega) h.len) (by kernel_rfl) (by kernel_rfl) he]
    show Except.ok ({ qm R f n s (List.replicate (wantI l) (5, R 2)) with pc := ((n : Int) + 1) % 65536, steps := wrap64 (s + 1), sp := ((2 : Nat) : Int) } : Mach) = _
    rw [show ((n : Int) + 1) % 65536 = ((n + 1 : Nat) : Int) by omega, wrap_small (s + 1) (by omega) (by omega)]
    rfl
  rw [runM_ok hs]
  refine runM_err ?_ (by decide)
  exact step_bad (p := n + 1) [2] ⟨2, 0, 0, 0, 0, 0, 1⟩ h.page (by rw [Nat.zero_add]; rfl) (by simp; omega) (by show [byteI (pollsP n) (n + 1)] = [2]; rw [pollsP_code n (n + 1) (by omega), pollsB_last]) (by kernel_rfl) (by kernel_rfl) (by rfl)
end Go.Proofs.Ytieaicdihingkaa
