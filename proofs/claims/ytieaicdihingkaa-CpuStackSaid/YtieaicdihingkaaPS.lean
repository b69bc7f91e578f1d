/- Plain: the program of CpuStack. -/
import Derived.Test.YtieaicdihingkaaPK
namespace Go.Proofs.Ytieaicdihingkaa
set_option linter.unusedVariables false
set_option linter.unusedSimpArgs false
open Go.RowKit
theorem codeL_page (c : ByteArray) (p n : Nat) (h : p + n ≤ 4096) : codeL (pageB 0 c) p n = codeL c p n := by
  unfold codeL
  refine List.map_congr_left fun k hk => ?_
  have := List.mem_range.1 hk
  rw [byteI_page _ _ _ (by omega)]
  unfold pageI
  rw [if_pos (Nat.zero_le _), Nat.sub_zero]
theorem sameI_eq' {a b : InsI} (h : sameI a b = true) : a = b := by
  unfold sameI at h
  simp only [Bool.and_eq_true, decide_eq_true_eq] at h
  obtain ⟨a1, a2, a3, a4, a5, a6, a7⟩ := a
  obtain ⟨b1, b2, b3, b4, b5, b6, b7⟩ := b
  simp only at h
  obtain ⟨rfl, rfl, rfl, rfl, rfl, rfl, rfl⟩ := h
  rfl
def isDec (l : List Int) (i : InsI) : Bool := sameI (decI ⟨(bytesI l).toArray⟩).1 i && decide ((decI ⟨(bytesI l).toArray⟩).2 = 0) && decide (1 ≤ l.length ∧ fetchN (l.headD 0) = l.length)
theorem isDec_dec {l : List Int} {i : InsI} (h : isDec l i = true) : decI ⟨(bytesI l).toArray⟩ = (i, 0) ∧ decide (1 ≤ l.length ∧ fetchN (l.headD 0) = l.length) = true := by
  unfold isDec at h
  rw [Bool.and_eq_true, Bool.and_eq_true] at h
  refine ⟨?_, h.2⟩
  have e1 := sameI_eq' h.1.1
  have e2 := of_decide_eq_true h.1.2
  cases hd : decI ⟨(bytesI l).toArray⟩ with
  | mk a b => rw [hd] at e1 e2; simp only at e1 e2; rw [e1, e2]
theorem step_fine {E : Env} {m m' : Mach} {S : ByteArray} {base p : Nat} (l : List Int) (i : InsI) (hP : PageAt E m.bank S base) (hp : m.pc = ((base + p : Nat) : Int)) (hn : p + l.length ≤ 4096) (hl : codeL S p l.length = l) (hd : isDec l i = true)
    (he : execM E (addPc m i.size) i i.d.toNat i.s.toNat = .ok m') : stepM E m = .ok { m' with steps := wrap64 (m'.steps + 1), sp := m'.st.length } :=
  step_ok l i hP hp hn hl (isDec_dec hd).2 (isDec_dec hd).1 he
def enterDec (n : Nat) : Bool := isDec [20, (n : Int)] ⟨20, 0, 0, n, 0, 0, 2⟩ && isDec [160, 4, ((n + 1 : Nat) : Int)] ⟨160, 4, 0, ((n + 1 : Nat) : Int), 0, 0, 3⟩
theorem enterDec_all : (List.range 200).all enterDec = true := by kernel_rfl
theorem enter_dec {n : Nat} (h : n < 200) : isDec [20, (n : Int)] ⟨20, 0, 0, n, 0, 0, 2⟩ = true ∧ isDec [160, 4, ((n + 1 : Nat) : Int)] ⟨160, 4, 0, ((n + 1 : Nat) : Int), 0, 0, 3⟩ = true := by
  have := List.all_eq_true.1 enterDec_all n (List.mem_range.2 h)
  unfold enterDec at this
  rw [Bool.and_eq_true] at this
  exact this
def stackB (n : Nat) : ByteArray := ⟨#[16, 1, 16, 2, 20, UInt8.ofNat n, 162, 3, 254, 160, 4, UInt8.ofNat (n + 1), 5, 17, 5, 160, 6, 0, 21, 1, 1]⟩
theorem byte_nat (n : Nat) (h : n < 256) : ((UInt8.ofNat n).toNat : Int) = n := by rw [UInt8.toNat_ofNat']; simp only [Nat.reducePow]; omega
/-- The registers and the stack, and the rest. -/
def sm (a b : Int) (R : Nat → Int) (pc fp steps : Int) (st : List Int) : Mach := { startM 0 with R := R, pc := pc, fp := fp, steps := steps, st := st, sp := st.length }
def sR (a b : Int) : Nat → Int := setR (setR (fun _ => 0) 1 a) 2 b
theorem sm_done {a b : Int} {R : Nat → Int} {pc fp steps x : Int} {st : List Int} (h0 : 0 ≤ steps) (h1 : steps < 1000) : Except.ok (ε := Int × Int) ({ { sm a b R pc fp steps st with sp := x } with steps := wrap64 (steps + 1), sp := (st.length : Int) } : Mach) = .ok (sm a b R pc fp (steps + 1) st) := by
  rw [wrap_small (steps + 1) (by omega) (by omega)]
  rfl
theorem stack_run {E : Env} {n : Nat} {a b : Int} (hE : E.banks = [pageB 0 (stackB n)]) (hn : n < 200) :
    runM E 100 (sm a b (sR a b) 0 9 0 [0, 65535]) = (sm a b (setR (setR (setR (setR (sR a b) 3 b) 4 b) 5 b) 6 a) 65535 9 10 [], (6, 0)) := by
  have hP : PageAt E 0 (pageB 0 (stackB n)) 0 := page_at0 0 hE (pageB_size 0 _)
  have bn := byte_nat n (by omega)
  have bn1 := byte_nat (n + 1) (by omega)
  have s1 : stepM E (sm a b (sR a b) 0 9 0 [0, 65535]) = .ok (sm a b (sR a b) 2 9 1 [0, 65535, a]) :=
    (step_fine (p := 0) [16, 1] ⟨16, 1, 0, 0, 0, 0, 2⟩ hP rfl (by decide) (codeL_page _ _ _ (by decide)) (by kernel_rfl) rfl).trans (sm_done (steps := 0) (x := 2) (by decide) (by decide))
  have s2 : stepM E (sm a b (sR a b) 2 9 1 [0, 65535, a]) = .ok (sm a b (sR a b) 4 9 2 [0, 65535, a, b]) :=
    (step_fine (p := 2) [16, 2] ⟨16, 2, 0, 0, 0, 0, 2⟩ hP rfl (by decide) (codeL_page _ _ _ (by decide)) (by kernel_rfl) rfl).trans (sm_done (steps := 1) (x := 3) (by decide) (by decide))
  have e3 : execM E (addPc (sm a b (sR a b) 4 9 2 [0, 65535, a, b]) 2) ⟨20, 0, 0, n, 0, 0, 2⟩ 0 0 = .ok { sm a b (sR a b) 6 5 2 ([0, 65535, a, b, 9] ++ List.replicate n 0) with sp := 4 } := by
    show enterM (addPc (sm a b (sR a b) 4 9 2 [0, 65535, a, b]) 2) n = _
    unfold enterM
    rw [if_pos (by show 4 + 1 ≤ 4096; decide), if_pos (by show 4 + 1 + (n : Int).toNat ≤ 4096; omega), show (n : Int).toNat = n by omega]
    rfl
  have s3 : stepM E (sm a b (sR a b) 4 9 2 [0, 65535, a, b]) = .ok (sm a b (sR a b) 6 5 3 ([0, 65535, a, b, 9] ++ List.replicate n 0)) := by
    refine (step_fine (p := 4) [20, (n : Int)] ⟨20, 0, 0, n, 0, 0, 2⟩ hP rfl (by show 4 + 2 ≤ 4096; decide) ((codeL_page _ _ _ (by show 4 + 2 ≤ 4096; decide)).trans ?_) (enter_dec hn).1 e3).trans (sm_done (steps := 2) (by decide) (by decide))
    show [(16 : Int) + 4, ((UInt8.ofNat n).toNat : Int)] = _
    rw [bn]
    rfl
  have hlen : ([0, 65535, a, b, 9] ++ List.replicate n 0 : List Int).length = n + 5 := by simp
  have hget : ∀ k : Nat, k < 5 → ([0, 65535, a, b, 9] ++ List.replicate n 0 : List Int)[k]? = ([0, 65535, a, b, 9] : List Int)[k]? := fun k hk => List.getElem?_append_left (by simpa using hk)
  have e4 : execM E (addPc (sm a b (sR a b) 6 5 3 ([0, 65535, a, b, 9] ++ List.replicate n 0)) 3) ⟨162, 3, 0, 65534, 0, 0, 3⟩ 3 0 = .ok { sm a b (setR (sR a b) 3 b) 9 5 3 ([0, 65535, a, b, 9] ++ List.replicate n 0) with sp := ((n + 5 : Nat) : Int) } := by
    show ldM (addPc (sm a b (sR a b) 6 5 3 ([0, 65535, a, b, 9] ++ List.replicate n 0)) 3) 3 3 = _
    unfold ldM slotAt
    rw [if_pos ⟨by decide, by show (3 : Int) < (([0, 65535, a, b, 9] ++ List.replicate n 0 : List Int).length : Int); rw [hlen]; omega⟩]
    dsimp only
    rw [show (3 : Int).toNat = 3 from rfl]
    show Except.ok (setD (addPc (sm a b (sR a b) 6 5 3 ([0, 65535, a, b, 9] ++ List.replicate n 0)) 3) 3 ((([0, 65535, a, b, 9] ++ List.replicate n 0 : List Int)[3]?).getD 0)) = _
    rw [hget 3 (by decide), ← hlen]
    rfl
  have s4 : stepM E (sm a b (sR a b) 6 5 3 ([0, 65535, a, b, 9] ++ List.replicate n 0)) = .ok (sm a b (setR (sR a b) 3 b) 9 5 4 ([0, 65535, a, b, 9] ++ List.replicate n 0)) :=
    (step_fine (p := 6) [162, 3, 254] ⟨162, 3, 0, 65534, 0, 0, 3⟩ hP rfl (by decide) (codeL_page _ _ _ (by decide)) (by kernel_rfl) e4).trans (sm_done (steps := 3) (by decide) (by decide))
  have e5 : execM E (addPc (sm a b (setR (sR a b) 3 b) 9 5 4 ([0, 65535, a, b, 9] ++ List.replicate n 0)) 3) ⟨160, 4, 0, ((n + 1 : Nat) : Int), 0, 0, 3⟩ 4 0 = .ok { sm a b (setR (setR (sR a b) 3 b) 4 b) 12 5 4 ([0, 65535, a, b, 9] ++ List.replicate n 0) with sp := ((n + 5 : Nat) : Int) } := by
    show ldM (addPc (sm a b (setR (sR a b) 3 b) 9 5 4 ([0, 65535, a, b, 9] ++ List.replicate n 0)) 3) ((([0, 65535, a, b, 9] ++ List.replicate n 0 : List Int).length : Int) - 1 - ((n + 1 : Nat) : Int)) 4 = _
    rw [show (([0, 65535, a, b, 9] ++ List.replicate n 0 : List Int).length : Int) - 1 - ((n + 1 : Nat) : Int) = 3 by rw [hlen]; omega]
    unfold ldM slotAt
    rw [if_pos ⟨by decide, by show (3 : Int) < (([0, 65535, a, b, 9] ++ List.replicate n 0 : List Int).length : Int); rw [hlen]; omega⟩]
    dsimp only
    rw [show (3 : Int).toNat = 3 from rfl]
    show Except.ok (setD (addPc (sm a b (setR (sR a b) 3 b) 9 5 4 ([0, 65535, a, b, 9] ++ List.replicate n 0)) 3) 4 ((([0, 65535, a, b, 9] ++ List.replicate n 0 : List Int)[3]?).getD 0)) = _
    rw [hget 3 (by decide), ← hlen]
    rfl
  have s5 : stepM E (sm a b (setR (sR a b) 3 b) 9 5 4 ([0, 65535, a, b, 9] ++ List.replicate n 0)) = .ok (sm a b (setR (setR (sR a b) 3 b) 4 b) 12 5 5 ([0, 65535, a, b, 9] ++ List.replicate n 0)) := by
    refine (step_fine (p := 9) [160, 4, ((n + 1 : Nat) : Int)] ⟨160, 4, 0, ((n + 1 : Nat) : Int), 0, 0, 3⟩ hP rfl (by show 9 + 3 ≤ 4096; decide) ((codeL_page _ _ _ (by show 9 + 3 ≤ 4096; decide)).trans ?_) (enter_dec hn).2 e5).trans (sm_done (steps := 4) (by decide) (by decide))
    show [(160 : Int), 4, ((UInt8.ofNat (n + 1)).toNat : Int)] = _
    rw [bn1]
  have e6 : execM E (addPc (sm a b (setR (setR (sR a b) 3 b) 4 b) 12 5 5 ([0, 65535, a, b, 9] ++ List.replicate n 0)) 1) ⟨5, 0, 0, 0, 0, 0, 1⟩ 0 0 = .ok { sm a b (setR (setR (sR a b) 3 b) 4 b) 13 9 5 [0, 65535, a, b] with sp := ((n + 5 : Nat) : Int) } := by
    show leaveM (addPc (sm a b (setR (setR (sR a b) 3 b) 4 b) 12 5 5 ([0, 65535, a, b, 9] ++ List.replicate n 0)) 1) = _
    unfold leaveM
    rw [if_neg (by
      intro h
      rcases h with h | h
      · exact absurd h (by show ¬ (5 : Int) = 0; decide)
      · have : (([0, 65535, a, b, 9] ++ List.replicate n 0 : List Int).length : Int) < 5 := h
        rw [hlen] at this; omega)]
    show Except.ok ({ sm a b (setR (setR (sR a b) 3 b) 4 b) 13 ((([0, 65535, a, b, 9] ++ List.replicate n 0 : List Int)[4]?).getD 0) 5 (([0, 65535, a, b, 9] ++ List.replicate n 0 : List Int).take 4) with sp := (([0, 65535, a, b, 9] ++ List.replicate n 0 : List Int).length : Int) } : Mach) = _
    rw [hget 4 (by decide), hlen]
    rfl
  have s6 : stepM E (sm a b (setR (setR (sR a b) 3 b) 4 b) 12 5 5 ([0, 65535, a, b, 9] ++ List.replicate n 0)) = .ok (sm a b (setR (setR (sR a b) 3 b) 4 b) 13 9 6 [0, 65535, a, b]) :=
    (step_fine (p := 12) [5] ⟨5, 0, 0, 0, 0, 0, 1⟩ hP rfl (by decide) (codeL_page _ _ _ (by decide)) (by kernel_rfl) e6).trans (sm_done (steps := 5) (by decide) (by decide))
  have s7 : stepM E (sm a b (setR (setR (sR a b) 3 b) 4 b) 13 9 6 [0, 65535, a, b]) = .ok (sm a b (setR (setR (setR (sR a b) 3 b) 4 b) 5 b) 15 9 7 [0, 65535, a]) :=
    (step_fine (p := 13) [17, 5] ⟨17, 5, 0, 0, 0, 0, 2⟩ hP rfl (by decide) (codeL_page _ _ _ (by decide)) (by kernel_rfl) rfl).trans (sm_done (steps := 6) (x := 4) (by decide) (by decide))
  have s8 : stepM E (sm a b (setR (setR (setR (sR a b) 3 b) 4 b) 5 b) 15 9 7 [0, 65535, a]) = .ok (sm a b (setR (setR (setR (setR (sR a b) 3 b) 4 b) 5 b) 6 a) 18 9 8 [0, 65535, a]) :=
    (step_fine (p := 15) [160, 6, 0] ⟨160, 6, 0, 0, 0, 0, 3⟩ hP rfl (by decide) (codeL_page _ _ _ (by decide)) (by kernel_rfl) rfl).trans (sm_done (steps := 7) (x := 3) (by decide) (by decide))
  have s9 : stepM E (sm a b (setR (setR (setR (setR (sR a b) 3 b) 4 b) 5 b) 6 a) 18 9 8 [0, 65535, a]) = .ok (sm a b (setR (setR (setR (setR (sR a b) 3 b) 4 b) 5 b) 6 a) 20 9 9 [0, 65535]) :=
    (step_fine (p := 18) [21, 1] ⟨21, 0, 0, 1, 0, 0, 2⟩ hP rfl (by decide) (codeL_page _ _ _ (by decide)) (by kernel_rfl) rfl).trans (sm_done (steps := 8) (x := 3) (by decide) (by decide))
  have s10 : stepM E (sm a b (setR (setR (setR (setR (sR a b) 3 b) 4 b) 5 b) 6 a) 20 9 9 [0, 65535]) = .ok (sm a b (setR (setR (setR (setR (sR a b) 3 b) 4 b) 5 b) 6 a) 65535 9 10 []) :=
    (step_fine (p := 20) [1] ⟨1, 0, 0, 0, 0, 0, 1⟩ hP rfl (by decide) (codeL_page _ _ _ (by decide)) (by kernel_rfl) rfl).trans (sm_done (steps := 9) (x := 2) (by decide) (by decide))
  have s11 : stepM E (sm a b (setR (setR (setR (setR (sR a b) 3 b) 4 b) 5 b) 6 a) 65535 9 10 []) = .error (6, 0) := by
    unfold stepM fetchM
    rw [if_pos (show (sm a b (setR (setR (setR (setR (sR a b) 3 b) 4 b) 5 b) 6 a) 65535 9 10 []).pc = 65535 from rfl)]
  rw [runM_ok (k := 99) s1, runM_ok (k := 98) s2, runM_ok (k := 97) s3, runM_ok (k := 96) s4, runM_ok (k := 95) s5, runM_ok (k := 94) s6, runM_ok (k := 93) s7, runM_ok (k := 92) s8, runM_ok (k := 91) s9, runM_ok (k := 90) s10, runM_err (k := 89) s11 (by decide)]
end Go.Proofs.Ytieaicdihingkaa
