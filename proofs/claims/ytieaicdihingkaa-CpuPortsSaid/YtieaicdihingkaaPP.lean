/- Plain: the program of CpuPorts. -/
import Derived.Test.YtieaicdihingkaaK28
namespace Go.Proofs.Ytieaicdihingkaa
set_option linter.unusedVariables false
set_option linter.unusedSimpArgs false
open Go.RowKit
theorem addPc_execM (m : Mach) : addPc m 0 = { m with pc := (m.pc + 0) % 65536 } := rfl
/-- One step, given by what lies in the code. -/
theorem sameI_eq {a b : InsI} (h : sameI a b = true) : a = b := by
  unfold sameI at h
  simp only [Bool.and_eq_true, decide_eq_true_eq] at h
  obtain ⟨a1, a2, a3, a4, a5, a6, a7⟩ := a
  obtain ⟨b1, b2, b3, b4, b5, b6, b7⟩ := b
  simp only at h
  obtain ⟨rfl, rfl, rfl, rfl, rfl, rfl, rfl⟩ := h
  rfl
def inDec (p : Nat) : Bool := sameI (decI ⟨(bytesI [144, 1, (p : Int)]).toArray⟩).1 ⟨144, 1, 0, p, 0, 0, 3⟩ && decide ((decI ⟨(bytesI [144, 1, (p : Int)]).toArray⟩).2 = 0)
def outDec (p : Nat) : Bool := sameI (decI ⟨(bytesI [145, 1, (p : Int)]).toArray⟩).1 ⟨145, 1, 0, p, 0, 0, 3⟩ && decide ((decI ⟨(bytesI [145, 1, (p : Int)]).toArray⟩).2 = 0)
theorem inDec_all : (List.range 256).all inDec = true := by kernel_rfl
theorem outDec_all : (List.range 256).all outDec = true := by kernel_rfl
theorem dec_pair {s : ByteArray} {i : InsI} (h1 : sameI (decI s).1 i = true) (h2 : decide ((decI s).2 = 0) = true) : decI s = (i, 0) := by
  have e1 := sameI_eq h1
  have e2 := of_decide_eq_true h2
  cases hd : decI s with
  | mk a b => rw [hd] at e1 e2; simp only at e1 e2; rw [e1, e2]
theorem in_dec (p : Nat) (h : p < 256) : decI ⟨(bytesI [144, 1, (p : Int)]).toArray⟩ = (⟨144, 1, 0, p, 0, 0, 3⟩, 0) := by
  have := List.all_eq_true.1 inDec_all p (List.mem_range.2 h)
  unfold inDec at this
  rw [Bool.and_eq_true] at this
  exact dec_pair this.1 this.2
theorem out_dec (p : Nat) (h : p < 256) : decI ⟨(bytesI [145, 1, (p : Int)]).toArray⟩ = (⟨145, 1, 0, p, 0, 0, 3⟩, 0) := by
  have := List.all_eq_true.1 outDec_all p (List.mem_range.2 h)
  unfold outDec at this
  rw [Bool.and_eq_true] at this
  exact dec_pair this.1 this.2
/-- The bytes: k rounds of IN and OUT. -/
def rounds (p : UInt8) : Nat → List UInt8
  | 0 => []
  | k + 1 => rounds p k ++ [144, 1, p, 145, 1, p]
def portsL (p : UInt8) (k : Nat) : List UInt8 := [145, 7, 0, 144, 6, 0] ++ rounds p k
theorem rounds_length (p : UInt8) : ∀ k, (rounds p k).length = 6 * k
  | 0 => rfl
  | k + 1 => by rw [rounds, List.length_append, rounds_length p k]; rfl
theorem rounds_at (p : UInt8) : ∀ (k j i : Nat), j < k → i < 6 → (rounds p k)[6 * j + i]? = ([144, 1, p, 145, 1, p] : List UInt8)[i]?
  | 0, j, i, h, _ => by omega
  | k + 1, j, i, h, hi => by
    rw [rounds]
    by_cases e : j = k
    · subst e
      rw [List.getElem?_append_right (by rw [rounds_length]; omega), rounds_length, show 6 * j + i - 6 * j = i by omega]
    · rw [List.getElem?_append_left (by rw [rounds_length]; omega)]
      exact rounds_at p k j i (by omega) hi
def portsB (p : UInt8) (n : Nat) : ByteArray := ⟨(portsL p (n + 1) ++ [2]).toArray⟩
theorem byteI_list (l : List UInt8) (j : Nat) : byteI ⟨l.toArray⟩ j = ((l[j]?.getD 0).toNat : Int) := by
  unfold byteI
  rfl
theorem ports_byte (p : UInt8) (n j i : Nat) (hj : j < n + 1) (hi : i < 6) : byteI (portsB p n) (6 + 6 * j + i) = ((([144, 1, p, 145, 1, p] : List UInt8)[i]?.getD 0).toNat : Int) := by
  unfold portsB portsL
  rw [byteI_list, List.append_assoc, List.getElem?_append_right (by simp; omega), List.getElem?_append_left (by rw [rounds_length]; simp; omega)]
  rw [show 6 + 6 * j + i - ([145, 7, 0, 144, 6, 0] : List UInt8).length = 6 * j + i by simp; omega, rounds_at p (n + 1) j i hj hi]
theorem ports_first (p : UInt8) (n i : Nat) (hi : i < 6) : byteI (portsB p n) i = ((([145, 7, 0, 144, 6, 0] : List UInt8)[i]?.getD 0).toNat : Int) := by
  unfold portsB portsL
  rw [byteI_list, List.append_assoc, List.getElem?_append_left (by simp; omega)]
theorem ports_last (p : UInt8) (n : Nat) : byteI (portsB p n) (6 + 6 * (n + 1)) = 2 := by
  unfold portsB portsL
  rw [byteI_list, List.append_assoc, List.getElem?_append_right (by simp), List.getElem?_append_right (by rw [rounds_length]; simp)]
  rw [show 6 + 6 * (n + 1) - ([145, 7, 0, 144, 6, 0] : List UInt8).length - (rounds p (n + 1)).length = 0 by rw [rounds_length]; simp]
  rfl
theorem codeL3 (c : ByteArray) (q : Nat) : codeL c q 3 = [byteI c q, byteI c (q + 1), byteI c (q + 2)] := rfl
/-- The word that the round k reads. -/
def inW (tin : List Int) (p v : Int) (k : Nat) : Int := if p = 0 then v % 64 else (tin[k]?).getD 0
/-- The machine behind k rounds. -/
def pm (tin : List Int) (p v : Int) (k : Nat) (R : Nat → Int) : Mach :=
  { startM 0 with R := R, pc := ((6 + 6 * k : Nat) : Int), bank := v % 64, steps := ((2 + 2 * k : Nat) : Int), inputs := if p = 0 then 0 else ((min k tin.length : Nat) : Int), out := if p = 0 then [] else (List.range k).map fun j => (p, inW tin p v j) }
theorem wrap_small (x : Int) (h0 : 0 ≤ x) (h1 : x < 1000000) : wrap64 x = x := by unfold wrap64; omega
theorem in_step {E : Env} {p8 : UInt8} {n : Nat} {m : Mach} {j : Nat} (hE : E.banks = [pageB 0 (portsB p8 n)]) (hn : n ≤ 10) (hj : j < n + 1) (hp : m.pc = ((6 + 6 * j : Nat) : Int)) :
    stepM E m = .ok { portsM E (addPc m 3) 144 1 (p8.toNat : Int) with steps := wrap64 ((portsM E (addPc m 3) 144 1 (p8.toNat : Int)).steps + 1), sp := ((portsM E (addPc m 3) 144 1 (p8.toNat : Int)).st.length : Int) } := by
  have b0 := ports_byte p8 n j 0 hj (by decide)
  have b1 := ports_byte p8 n j 1 hj (by decide)
  have b2 := ports_byte p8 n j 2 hj (by decide)
  have hd : decI ⟨(bytesI (codeL (portsB p8 n) (6 + 6 * j) 3)).toArray⟩ = (⟨144, 1, 0, (p8.toNat : Int), 0, 0, 3⟩, 0) := by
    rw [codeL3, show byteI (portsB p8 n) (6 + 6 * j) = 144 from b0, show byteI (portsB p8 n) (6 + 6 * j + 1) = 1 from b1, show byteI (portsB p8 n) (6 + 6 * j + 2) = (p8.toNat : Int) from b2]
    exact in_dec p8.toNat p8.toNat_lt
  rw [step_page (p := 6 + 6 * j) (n := 3) hE hp (by omega) (by decide) (by rw [show byteI (portsB p8 n) (6 + 6 * j) = 144 from b0]; kernel_rfl) hd]
  rfl
theorem out_step {E : Env} {p8 : UInt8} {n : Nat} {m : Mach} {j : Nat} (hE : E.banks = [pageB 0 (portsB p8 n)]) (hn : n ≤ 10) (hj : j < n + 1) (hp : m.pc = ((6 + 6 * j + 3 : Nat) : Int)) :
    stepM E m = .ok { portsM E (addPc m 3) 145 1 (p8.toNat : Int) with steps := wrap64 ((portsM E (addPc m 3) 145 1 (p8.toNat : Int)).steps + 1), sp := ((portsM E (addPc m 3) 145 1 (p8.toNat : Int)).st.length : Int) } := by
  have b0 := ports_byte p8 n j 3 hj (by decide)
  have b1 := ports_byte p8 n j 4 hj (by decide)
  have b2 := ports_byte p8 n j 5 hj (by decide)
  have hd : decI ⟨(bytesI (codeL (portsB p8 n) (6 + 6 * j + 3) 3)).toArray⟩ = (⟨145, 1, 0, (p8.toNat : Int), 0, 0, 3⟩, 0) := by
    rw [codeL3, show byteI (portsB p8 n) (6 + 6 * j + 3) = 145 from b0, show byteI (portsB p8 n) (6 + 6 * j + 3 + 1) = 1 from b1, show byteI (portsB p8 n) (6 + 6 * j + 3 + 2) = (p8.toNat : Int) from b2]
    exact out_dec p8.toNat p8.toNat_lt
  rw [step_page (p := 6 + 6 * j + 3) (n := 3) hE hp (by omega) (by decide) (by rw [show byteI (portsB p8 n) (6 + 6 * j + 3) = 145 from b0]; kernel_rfl) hd]
  rfl
def pmid (tin : List Int) (p v : Int) (k : Nat) (R : Nat → Int) : Mach :=
  { startM 0 with R := setR R 1 (inW tin p v k), pc := ((6 + 6 * k + 3 : Nat) : Int), bank := v % 64, steps := ((2 + 2 * k + 1 : Nat) : Int), inputs := if p = 0 then 0 else ((min (k + 1) tin.length : Nat) : Int), out := if p = 0 then [] else (List.range k).map fun j => (p, inW tin p v j) }
theorem round_in {E : Env} {p8 : UInt8} {n k : Nat} {v : Int} {R : Nat → Int} (hE : E.banks = [pageB 0 (portsB p8 n)]) (ht : E.tin.length = n) (hn : n ≤ 10) (hk : k < n + 1) (hv : 0 ≤ v ∧ v < 65536) :
    stepM E (pm E.tin (p8.toNat : Int) v k R) = .ok (pmid E.tin (p8.toNat : Int) v k R) := by
  rw [in_step hE hn hk rfl]
  have hst : wrap64 (((2 + 2 * k : Nat) : Int) + 1) = ((2 + 2 * k + 1 : Nat) : Int) := by rw [wrap_small _ (by omega) (by omega)]; omega
  have hpc : (((6 + 6 * k : Nat) : Int) + 3) % 65536 = ((6 + 6 * k + 3 : Nat) : Int) := by omega
  by_cases h0 : (p8.toNat : Int) = 0
  · have hb : v % 64 % 65536 = v % 64 := by omega
    unfold portsM
    rw [if_neg (by decide), if_pos h0]
    unfold pm pmid setD addPc inW startM
    simp only [if_pos h0, hst, hpc, hb]
    rfl
  · unfold portsM
    rw [if_neg (by decide), if_neg h0]
    unfold inM
    have hmax : (max (addPc (pm E.tin (p8.toNat : Int) v k R) 3).inputs 0).toNat = min k n := by
      show (max (if (p8.toNat : Int) = 0 then 0 else ((min k E.tin.length : Nat) : Int)) 0).toNat = _
      rw [if_neg h0, ht]
      omega
    have hmx : max (addPc (pm E.tin (p8.toNat : Int) v k R) 3).inputs 0 = ((min k n : Nat) : Int) := by
      show max (if (p8.toNat : Int) = 0 then 0 else ((min k E.tin.length : Nat) : Int)) 0 = _
      rw [if_neg h0, ht]
      omega
    rw [hmax]
    by_cases hlt : k < n
    · rw [show min k n = k by omega]
      obtain ⟨x, hx⟩ := at_some E.tin k (by omega)
      rw [hx]
      dsimp only
      rw [hmx]
      have hin : ((min k n : Nat) : Int) + 1 = ((min (k + 1) E.tin.length : Nat) : Int) := by rw [ht]; omega
      rw [hin]
      unfold pm pmid setD addPc inW startM
      simp only [if_neg h0, hst, hpc, hx]
      rfl
    · have hnone : E.tin[min k n]? = none := List.getElem?_eq_none (by omega)
      rw [hnone]
      dsimp only
      have hx : E.tin[k]? = none := List.getElem?_eq_none (by omega)
      have hin : min k E.tin.length = min (k + 1) E.tin.length := by omega
      unfold pm pmid setD addPc inW startM
      simp only [if_neg h0, hst, hpc, hx, hin]
      rfl
theorem round_out {E : Env} {p8 : UInt8} {n k : Nat} {v : Int} {R : Nat → Int} (hE : E.banks = [pageB 0 (portsB p8 n)]) (ht : E.tin.length = n) (hn : n ≤ 10) (hk : k < n + 1) (hv : 0 ≤ v ∧ v < 65536) :
    stepM E (pmid E.tin (p8.toNat : Int) v k R) = .ok (pm E.tin (p8.toNat : Int) v (k + 1) (setR R 1 (inW E.tin (p8.toNat : Int) v k))) := by
  rw [out_step hE hn hk rfl]
  have hst : wrap64 (((2 + 2 * k + 1 : Nat) : Int) + 1) = ((2 + 2 * (k + 1) : Nat) : Int) := by rw [wrap_small _ (by omega) (by omega)]; omega
  have hpc : (((6 + 6 * k + 3 : Nat) : Int) + 3) % 65536 = ((6 + 6 * (k + 1) : Nat) : Int) := by omega
  have hr1 : (addPc (pmid E.tin (p8.toNat : Int) v k R) 3).R 1 = inW E.tin (p8.toNat : Int) v k := rfl
  unfold portsM
  rw [if_pos rfl, hr1]
  by_cases h0 : (p8.toNat : Int) = 0
  · have hb : v % 64 % 64 = v % 64 := by omega
    rw [if_pos h0]
    unfold pm pmid addPc inW startM
    simp only [if_pos h0, hst, hpc, hb]
    rfl
  · rw [if_neg h0]
    unfold pm pmid addPc startM
    simp only [if_neg h0, hst, hpc, List.range_succ, List.map_append, List.map_cons, List.map_nil]
    rfl
def pstart (v : Int) : Mach := { startM 0 with R := setR (fun _ => 0) 7 v }
def pone (v : Int) : Mach := { startM 0 with R := setR (fun _ => 0) 7 v, pc := 3, bank := v % 64, steps := 1 }
theorem first_out {E : Env} {p8 : UInt8} {n : Nat} {v : Int} (hE : E.banks = [pageB 0 (portsB p8 n)]) : stepM E (pstart v) = .ok (pone v) := by
  have b0 := ports_first p8 n 0 (by decide)
  have b1 := ports_first p8 n 1 (by decide)
  have b2 := ports_first p8 n 2 (by decide)
  have hd : decI ⟨(bytesI (codeL (portsB p8 n) 0 3)).toArray⟩ = (⟨145, 7, 0, 0, 0, 0, 3⟩, 0) := by
    rw [codeL3, show byteI (portsB p8 n) 0 = 145 from b0, show byteI (portsB p8 n) (0 + 1) = 7 from b1, show byteI (portsB p8 n) (0 + 2) = 0 from b2]
    kernel_rfl
  rw [step_page (p := 0) (n := 3) hE rfl (by decide) (by decide) (by rw [show byteI (portsB p8 n) 0 = 145 from b0]; kernel_rfl) hd]
  have h1 : execM E (addPc (pstart v) 3) ⟨145, 7, 0, 0, 0, 0, 3⟩ 7 0 = .ok { addPc (pstart v) 3 with bank := v % 64 } := rfl
  show (match execM E (addPc (pstart v) 3) ⟨145, 7, 0, 0, 0, 0, 3⟩ 7 0 with | .error t => (.error t : Except (Int × Int) Mach) | .ok m' => .ok { m' with steps := wrap64 (m'.steps + 1), sp := m'.st.length }) = _
  rw [h1]
  show Except.ok ({ addPc (pstart v) 3 with bank := v % 64, steps := wrap64 ((0 : Int) + 1), sp := ((2 : Nat) : Int) } : Mach) = _
  rw [wrap_small ((0 : Int) + 1) (by decide) (by decide)]
  rfl
theorem first_in {E : Env} {p8 : UInt8} {n : Nat} {v : Int} (hE : E.banks = [pageB 0 (portsB p8 n)]) (hv : 0 ≤ v ∧ v < 65536) : stepM E (pone v) = .ok (pm E.tin (p8.toNat : Int) v 0 (setR (setR (fun _ => 0) 7 v) 6 (v % 64))) := by
  have b0 := ports_first p8 n 3 (by decide)
  have b1 := ports_first p8 n 4 (by decide)
  have b2 := ports_first p8 n 5 (by decide)
  have hd : decI ⟨(bytesI (codeL (portsB p8 n) 3 3)).toArray⟩ = (⟨144, 6, 0, 0, 0, 0, 3⟩, 0) := by
    rw [codeL3, show byteI (portsB p8 n) 3 = 144 from b0, show byteI (portsB p8 n) (3 + 1) = 6 from b1, show byteI (portsB p8 n) (3 + 2) = 0 from b2]
    kernel_rfl
  rw [step_page (p := 3) (n := 3) hE rfl (by decide) (by decide) (by rw [show byteI (portsB p8 n) 3 = 144 from b0]; kernel_rfl) hd]
  have h1 : execM E (addPc (pone v) 3) ⟨144, 6, 0, 0, 0, 0, 3⟩ 6 0 = .ok (setD (addPc (pone v) 3) 6 (v % 64 % 65536)) := rfl
  show (match execM E (addPc (pone v) 3) ⟨144, 6, 0, 0, 0, 0, 3⟩ 6 0 with | .error t => (.error t : Except (Int × Int) Mach) | .ok m' => .ok { m' with steps := wrap64 (m'.steps + 1), sp := m'.st.length }) = _
  rw [h1, show v % 64 % 65536 = v % 64 by omega]
  have hi : (if (p8.toNat : Int) = 0 then (0 : Int) else ((min 0 E.tin.length : Nat) : Int)) = 0 := by split <;> simp
  have ho : (if (p8.toNat : Int) = 0 then ([] : List (Int × Int)) else (List.range 0).map fun j => ((p8.toNat : Int), inW E.tin (p8.toNat : Int) v j)) = [] := by split <;> rfl
  unfold pm
  rw [hi, ho]
  show Except.ok ({ setD (addPc (pone v) 3) 6 (v % 64) with steps := wrap64 ((1 : Int) + 1), sp := ((2 : Nat) : Int) } : Mach) = _
  rw [wrap_small ((1 : Int) + 1) (by decide) (by decide)]
  rfl
theorem last_hlt {E : Env} {p8 : UInt8} {n : Nat} {m : Mach} (hE : E.banks = [pageB 0 (portsB p8 n)]) (hn : n ≤ 10) (hp : m.pc = ((6 + 6 * (n + 1) : Nat) : Int)) : stepM E m = .error (1, 0) := by
  have b0 := ports_last p8 n
  have hd : decI ⟨(bytesI (codeL (portsB p8 n) (6 + 6 * (n + 1)) 1)).toArray⟩ = (⟨2, 0, 0, 0, 0, 0, 1⟩, 0) := by
    rw [show codeL (portsB p8 n) (6 + 6 * (n + 1)) 1 = [byteI (portsB p8 n) (6 + 6 * (n + 1))] from rfl, b0]
    kernel_rfl
  rw [step_page (p := 6 + 6 * (n + 1)) (n := 1) hE hp (by omega) (by decide) (by rw [b0]; kernel_rfl) hd]
  rfl
theorem runM_two {E : Env} {m m1 m2 : Mach} {k : Nat} (h1 : stepM E m = .ok m1) (h2 : stepM E m1 = .ok m2) : runM E (k + 2) m = runM E k m2 := by
  rw [runM_ok (k := k + 1) h1, runM_ok h2]
theorem ports_rounds {E : Env} {p8 : UInt8} {n : Nat} {v : Int} (hE : E.banks = [pageB 0 (portsB p8 n)]) (ht : E.tin.length = n) (hn : n ≤ 10) (hv : 0 ≤ v ∧ v < 65536) (K : Nat) :
    ∀ (d k : Nat) (R : Nat → Int), k + d = n + 1 → R 6 = v % 64 → ∃ R', R' 6 = v % 64 ∧ runM E (K + 2 * d) (pm E.tin (p8.toNat : Int) v k R) = runM E K (pm E.tin (p8.toNat : Int) v (n + 1) R')
  | 0, k, R, hk, hR => by
    have : k = n + 1 := by omega
    subst this
    exact ⟨R, hR, rfl⟩
  | d + 1, k, R, hk, hR => by
    obtain ⟨R', h1, h2⟩ := ports_rounds hE ht hn hv K d (k + 1) (setR R 1 (inW E.tin (p8.toNat : Int) v k)) (by omega) (by unfold setR; rw [if_neg (by decide)]; exact hR)
    refine ⟨R', h1, ?_⟩
    rw [show K + 2 * (d + 1) = (K + 2 * d) + 2 by omega, runM_two (round_in hE ht hn (by omega) hv) (round_out hE ht hn (by omega) hv)]
    exact h2
theorem ports_run {E : Env} {p8 : UInt8} {n : Nat} {v : Int} (hE : E.banks = [pageB 0 (portsB p8 n)]) (ht : E.tin.length = n) (hn : n ≤ 10) (hv : 0 ≤ v ∧ v < 65536) : ∃ R, R 6 = v % 64 ∧ runM E 1000 (pstart v) = (pm E.tin (p8.toNat : Int) v (n + 1) R, (1, 0)) := by
  obtain ⟨R, h1, h2⟩ := ports_rounds (p8 := p8) hE ht hn hv (998 - 2 * (n + 1)) (n + 1) 0 (setR (setR (fun _ => 0) 7 v) 6 (v % 64)) (by omega) (by unfold setR; rw [if_pos rfl])
  refine ⟨R, h1, ?_⟩
  rw [show (1000 : Nat) = 998 + 2 from rfl, runM_two (first_out hE) (first_in hE hv)]
  rw [show (998 - 2 * (n + 1)) + 2 * (n + 1) = 998 by omega] at h2
  rw [h2, show 998 - 2 * (n + 1) = (997 - 2 * (n + 1)) + 1 by omega]
  exact runM_err (last_hlt hE hn rfl) (by decide)
end Go.Proofs.Ytieaicdihingkaa
