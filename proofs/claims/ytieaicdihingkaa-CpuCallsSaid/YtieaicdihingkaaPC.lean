/- Plain: the program of CpuCalls. -/
import Derived.Test.YtieaicdihingkaaPK
namespace Go.Proofs.Ytieaicdihingkaa
set_option linter.unusedVariables false
set_option linter.unusedSimpArgs false
open Go.RowKit
theorem codeL_off (o : Nat) (c : ByteArray) (p n : Nat) (h : o + p + n ≤ 4096) : codeL (pageB o c) (o + p) n = codeL c p n := by
  unfold codeL
  refine List.map_congr_left fun k hk => ?_
  have := List.mem_range.1 hk
  rw [byteI_page _ _ _ (by omega)]
  unfold pageI
  rw [if_pos (by omega), show o + p + k - o = p + k by omega]
/-- The bytes of a loop's code: k rounds. -/
def callP : Nat → List Int
  | 0 => [48, 0, 0]
  | k + 1 => callP k ++ [160, 1, ((k + 2 : Nat) : Int), 33, 1]
theorem callP_len : ∀ k, (callP k).length = 3 + 5 * k
  | 0 => rfl
  | k + 1 => by rw [callP, List.length_append, callP_len k]; simp; omega
theorem callP_at : ∀ (k j i : Nat), j < k → i < 5 → (callP k)[3 + 5 * j + i]? = ([160, 1, ((j + 2 : Nat) : Int), 33, 1] : List Int)[i]?
  | 0, j, i, h, _ => by omega
  | k + 1, j, i, h, hi => by
    rw [callP]
    by_cases e : j = k
    · subst e
      rw [List.getElem?_append_right (by rw [callP_len]; omega), callP_len, show 3 + 5 * j + i - (3 + 5 * j) = i by omega]
    · rw [List.getElem?_append_left (by rw [callP_len]; omega)]
      exact callP_at k j i (by omega) hi
theorem callP_first : ∀ (k i : Nat), i < 3 → (callP k)[i]? = ([48, 0, 0] : List Int)[i]?
  | 0, i, _ => rfl
  | k + 1, i, hi => by
    rw [callP, List.getElem?_append_left (by rw [callP_len]; omega)]
    exact callP_first k i hi
def callB (n : Nat) : ByteArray := ⟨(bytesI (callP n ++ [1])).toArray⟩
theorem byteI_bytes (l : List Int) (j : Nat) (x : Int) (h : l[j]? = some x) (h0 : 0 ≤ x) (h1 : x < 256) : byteI ⟨(bytesI l).toArray⟩ j = x := by
  rw [byteI_list]
  unfold bytesI
  rw [List.getElem?_map, h]
  exact byte_one x h0 h1
theorem callB_at (n j i : Nat) (x : Int) (hn : n ≤ 8) (hj : j < n) (hi : i < 5) (hx : ([160, 1, ((j + 2 : Nat) : Int), 33, 1] : List Int)[i]? = some x) (h : 0 ≤ x ∧ x < 256) : byteI (callB n) (3 + 5 * j + i) = x :=
  byteI_bytes _ _ _ (by rw [List.getElem?_append_left (by rw [callP_len]; omega), callP_at n j i hj hi, hx]) h.1 h.2
theorem callB_mov (n : Nat) : codeL (callB n) 0 3 = [48, 0, 0] := by
  have h : ∀ i, i < 3 → byteI (callB n) i = (([48, 0, 0] : List Int)[i]?).getD 0 := fun i hi => by
    match i, hi with
    | 0, _ => exact byteI_bytes _ _ _ (by rw [List.getElem?_append_left (by rw [callP_len]; omega), callP_first n 0 (by decide)]; rfl) (by decide) (by decide)
    | 1, _ => exact byteI_bytes _ _ _ (by rw [List.getElem?_append_left (by rw [callP_len]; omega), callP_first n 1 (by decide)]; rfl) (by decide) (by decide)
    | 2, _ => exact byteI_bytes _ _ _ (by rw [List.getElem?_append_left (by rw [callP_len]; omega), callP_first n 2 (by decide)]; rfl) (by decide) (by decide)
  rw [codeL3', h 0 (by decide), h 1 (by decide), h 2 (by decide)]
  rfl
theorem callB_lds (n j : Nat) (hn : n ≤ 8) (hj : j < n) : codeL (callB n) (3 + 5 * j) 3 = [160, 1, ((j + 2 : Nat) : Int)] := by
  rw [codeL3', show byteI (callB n) (3 + 5 * j) = 160 from callB_at n j 0 160 hn hj (by decide) rfl (by decide), callB_at n j 1 1 hn hj (by decide) rfl (by decide), callB_at n j 2 ((j + 2 : Nat) : Int) hn hj (by decide) rfl (by omega)]
theorem callB_add (n j : Nat) (hn : n ≤ 8) (hj : j < n) : codeL (callB n) (3 + 5 * j + 3) 2 = [33, 1] := by
  rw [codeL2, callB_at n j 3 33 hn hj (by decide) rfl (by decide), show 3 + 5 * j + 3 + 1 = 3 + 5 * j + 4 by omega, callB_at n j 4 1 hn hj (by decide) rfl (by decide)]
theorem callB_ret (n : Nat) : codeL (callB n) (3 + 5 * n) 1 = [1] := by
  rw [codeL1]
  congr 1
  exact byteI_bytes _ _ _ (by rw [List.getElem?_append_right (by rw [callP_len]; omega), callP_len, show 3 + 5 * n - (3 + 5 * n) = 0 by omega]; rfl) (by decide) (by decide)
/-- A machine in the function: registers, place, steps, flags. -/
def cm (base : Nat) (bk : Int) (st : List Int) (R : Nat → Int) (off : Nat) (s f : Int) : Mach := { startM 0 with R := R, pc := ((base + (64 + off) : Nat) : Int), bank := bk, steps := s, f := f, st := st, sp := (st.length : Int) }
theorem cm_done {base : Nat} {bk : Int} {st : List Int} {R : Nat → Int} {off : Nat} {s f : Int} (h0 : 0 ≤ s) (h1 : s < 1000) : Except.ok (ε := Int × Int) ({ cm base bk st R off s f with steps := wrap64 ((cm base bk st R off s f).steps + 1), sp := ((cm base bk st R off s f).st.length : Int) } : Mach) = .ok (cm base bk st R off (s + 1) f) := by
  have : wrap64 ((cm base bk st R off s f).steps + 1) = s + 1 := wrap_small (s + 1) (by omega) (by omega)
  rw [this]
  rfl
def ldsDec (j : Nat) : Bool := sameI (decI ⟨(bytesI [160, 1, ((j + 2 : Nat) : Int)]).toArray⟩).1 ⟨160, 1, 0, ((j + 2 : Nat) : Int), 0, 0, 3⟩ && decide ((decI ⟨(bytesI [160, 1, ((j + 2 : Nat) : Int)]).toArray⟩).2 = 0)
theorem ldsDec_all : (List.range 8).all ldsDec = true := by kernel_rfl
theorem lds_dec (j : Nat) (h : j < 8) : decI ⟨(bytesI [160, 1, ((j + 2 : Nat) : Int)]).toArray⟩ = (⟨160, 1, 0, ((j + 2 : Nat) : Int), 0, 0, 3⟩, 0) := by
  have := List.all_eq_true.1 ldsDec_all j (List.mem_range.2 h)
  unfold ldsDec sameI at this
  simp only [Bool.and_eq_true, decide_eq_true_eq] at this
  generalize decI ⟨(bytesI [160, 1, ((j + 2 : Nat) : Int)]).toArray⟩ = x at this ⊢
  obtain ⟨⟨x1, x2, x3, x4, x5, x6, x7⟩, y⟩ := x
  simp only at this
  obtain ⟨⟨h1, h2, h3, h4, h5, h6, h7⟩, h8⟩ := this
  rw [h1, h2, h3, h4, h5, h6, h7, h8]
structure CallE (E : Env) (n : Nat) (args : List Int) (base : Nat) (bk : Int) : Prop where
  page : PageAt E bk (pageB 64 (callB n)) base
  len : args.length = n
  n8 : n ≤ 8
  ok : ∀ x ∈ args, OkU16 x
theorem call_pc {base off : Nat} (hb : base = 0 ∨ base = 4096) (h : off < 1000) (k : Nat) (hk : k < 10) : (((base + (64 + off) : Nat) : Int) + (k : Int)) % 65536 = ((base + (64 + (off + k)) : Nat) : Int) := by omega
def cst (args : List Int) (bk0 : Int) : List Int := [0, 65535] ++ args ++ [bk0, 65535]
theorem cst_len (args : List Int) (b : Int) : (cst args b).length = args.length + 4 := by unfold cst; simp
theorem cst_at (args : List Int) (b : Int) (k : Nat) (h : k < args.length) : (cst args b)[2 + k]? = args[k]? := by
  unfold cst
  rw [List.append_assoc, List.getElem?_append_right (by simp), List.getElem?_append_left (by simpa using h)]
  simp
theorem call_mov {E : Env} {n : Nat} {args : List Int} {base : Nat} {bk b0 : Int} {R : Nat → Int} {s f : Int} (h : CallE E n args base bk) (h0 : 0 ≤ s) (h1 : s < 1000) : stepM E (cm base bk (cst args b0) R 0 s f) = .ok (cm base bk (cst args b0) (setR R 0 0) 3 (s + 1) f) := by
  have he : execM E (addPc (cm base bk (cst args b0) R 0 s f) 3) ⟨48, 0, 0, 0, 0, 0, 3⟩ 0 0 = .ok (cm base bk (cst args b0) (setR R 0 0) 3 s f) := by
    show Except.ok ({ cm base bk (cst args b0) (setR R 0 0) 3 s f with pc := (((base + (64 + 0) : Nat) : Int) + (3 : Nat)) % 65536 } : Mach) = _
    rw [call_pc h.page.1 (by decide) 3 (by decide)]
    rfl
  exact (step_ok (p := 64 + 0) [48, 0, 0] ⟨48, 0, 0, 0, 0, 0, 3⟩ h.page rfl (by decide) ((codeL_off 64 _ 0 3 (by decide)).trans (callB_mov n)) (by kernel_rfl) (by kernel_rfl) he).trans (cm_done h0 h1)
theorem call_lds {E : Env} {n j : Nat} {args : List Int} {base : Nat} {bk b0 : Int} {R : Nat → Int} {s f x : Int} (h : CallE E n args base bk) (hj : j < n) (hx : args[n - 1 - j]? = some x) (h0 : 0 ≤ s) (h1 : s < 1000) : stepM E (cm base bk (cst args b0) R (3 + 5 * j) s f) = .ok (cm base bk (cst args b0) (setR R 1 x) (3 + 5 * j + 3) (s + 1) f) := by
  have hn := h.n8
  have hl := cst_len args b0
  have he : execM E (addPc (cm base bk (cst args b0) R (3 + 5 * j) s f) 3) ⟨160, 1, 0, ((j + 2 : Nat) : Int), 0, 0, 3⟩ 1 0 = .ok (cm base bk (cst args b0) (setR R 1 x) (3 + 5 * j + 3) s f) := by
    show ldM (addPc (cm base bk (cst args b0) R (3 + 5 * j) s f) 3) (((cst args b0).length : Int) - 1 - ((j + 2 : Nat) : Int)) 1 = _
    have hi : ((cst args b0).length : Int) - 1 - ((j + 2 : Nat) : Int) = ((2 + (n - 1 - j) : Nat) : Int) := by rw [hl, h.len]; omega
    rw [hi]
    unfold ldM slotAt
    rw [if_pos ⟨by omega, by show ((2 + (n - 1 - j) : Nat) : Int) < ((cst args b0).length : Int); rw [hl, h.len]; omega⟩]
    dsimp only
    show Except.ok (setD (addPc (cm base bk (cst args b0) R (3 + 5 * j) s f) 3) 1 (((cst args b0)[((2 + (n - 1 - j) : Nat) : Int).toNat]?).getD 0)) = _
    rw [Int.toNat_natCast, cst_at args b0 _ (by rw [h.len]; omega), hx]
    show Except.ok ({ cm base bk (cst args b0) (setR R 1 x) (3 + 5 * j + 3) s f with pc := (((base + (64 + (3 + 5 * j)) : Nat) : Int) + (3 : Nat)) % 65536 } : Mach) = _
    rw [call_pc h.page.1 (by omega) 3 (by decide)]
    rfl
  exact (step_ok (p := 64 + (3 + 5 * j)) [160, 1, ((j + 2 : Nat) : Int)] ⟨160, 1, 0, ((j + 2 : Nat) : Int), 0, 0, 3⟩ h.page rfl (by show 64 + (3 + 5 * j) + 3 ≤ 4096; omega) ((codeL_off 64 _ (3 + 5 * j) 3 (by omega)).trans (callB_lds n j hn hj)) (by kernel_rfl) (lds_dec j (by omega)) he).trans (cm_done h0 h1)
theorem call_add {E : Env} {n j : Nat} {args : List Int} {base : Nat} {bk b0 : Int} {R : Nat → Int} {s f : Int} (h : CallE E n args base bk) (hj : j < n) (h0 : 0 ≤ s) (h1 : s < 1000) : stepM E (cm base bk (cst args b0) R (3 + 5 * j + 3) s f) = .ok (cm base bk (cst args b0) (setR R 0 (addR (R 0) (R 1) false)) (3 + 5 * (j + 1)) (s + 1) (addF (R 0) (R 1) false)) := by
  have hn := h.n8
  have he : execM E (addPc (cm base bk (cst args b0) R (3 + 5 * j + 3) s f) 2) ⟨33, 0, 1, 0, 0, 0, 2⟩ 0 1 = .ok (cm base bk (cst args b0) (setR R 0 (addR (R 0) (R 1) false)) (3 + 5 * (j + 1)) s (addF (R 0) (R 1) false)) := by
    show Except.ok ({ cm base bk (cst args b0) (setR R 0 (addR (R 0) (R 1) false)) (3 + 5 * (j + 1)) s (addF (R 0) (R 1) false) with pc := (((base + (64 + (3 + 5 * j + 3)) : Nat) : Int) + (2 : Nat)) % 65536 } : Mach) = _
    rw [call_pc h.page.1 (by omega) 2 (by decide)]
    rfl
  exact (step_ok (p := 64 + (3 + 5 * j + 3)) [33, 1] ⟨33, 0, 1, 0, 0, 0, 2⟩ h.page rfl (by show 64 + (3 + 5 * j + 3) + 2 ≤ 4096; omega) ((codeL_off 64 _ (3 + 5 * j + 3) 2 (by omega)).trans (callB_add n j hn hj)) (by kernel_rfl) (by kernel_rfl) he).trans (cm_done h0 h1)
/-- The sum of the last k arguments. -/
def sumB (args : List Int) (k : Nat) : Int := (args.drop (args.length - k)).sum % 65536
theorem call_rounds {E : Env} {n : Nat} {args : List Int} {base : Nat} {bk b0 : Int} (h : CallE E n args base bk) :
    ∀ (d j : Nat) (R : Nat → Int) (s f : Int), j + d = n → 0 ≤ s → s ≤ 1 + 2 * j → R 0 = sumB args j → ∃ (R' : Nat → Int) (s' f' : Int), 0 ≤ s' ∧ s' ≤ 1 + 2 * n ∧ R' 0 = sumB args n ∧ ∀ K, runM E (K + 2 * d) (cm base bk (cst args b0) R (3 + 5 * j) s f) = runM E K (cm base bk (cst args b0) R' (3 + 5 * n) s' f')
  | 0, j, R, s, f, hj, h0, h1, hR => by
    obtain rfl : j = n := by omega
    exact ⟨R, s, f, h0, h1, hR, fun K => rfl⟩
  | d + 1, j, R, s, f, hj, h0, h1, hR => by
    have hn := h.n8
    have hlt : n - 1 - j < args.length := by rw [h.len]; omega
    have hx := List.getElem?_eq_getElem hlt
    obtain ⟨x, hx'⟩ : ∃ x, args[n - 1 - j] = x := ⟨_, rfl⟩
    rw [hx'] at hx
    have hs : addR (setR R 1 x 0) (setR R 1 x 1) false = sumB args (j + 1) := by
      have e0 : setR R 1 x 0 = R 0 := rfl
      have e1 : setR R 1 x 1 = x := rfl
      rw [e0, e1, hR]
      have hd : args.drop (args.length - (j + 1)) = x :: args.drop (args.length - j) := by
        rw [show args.length - (j + 1) = n - 1 - j by rw [h.len]; omega, List.drop_eq_getElem_cons hlt, hx', show n - 1 - j + 1 = args.length - j by rw [h.len]; omega]
      unfold sumB addR
      rw [hd, List.sum_cons, show cI false = 0 from rfl]
      omega
    obtain ⟨R', s', f', a1, a2, a3, a4⟩ := call_rounds (b0 := b0) h d (j + 1) (setR (setR R 1 x) 0 (addR (setR R 1 x 0) (setR R 1 x 1) false)) (s + 2) (addF (setR R 1 x 0) (setR R 1 x 1) false) (by omega) (by omega) (by omega) hs
    refine ⟨R', s', f', a1, a2, a3, fun K => ?_⟩
    rw [show K + 2 * (d + 1) = (K + 2 * d) + 1 + 1 by omega, runM_ok (call_lds h (by omega) hx h0 (by omega)), runM_ok (call_add h (by omega) (by omega) (by omega)), show s + 1 + 1 = s + 2 by omega]
    exact a4 K
/-- The machine at the end. -/
def cend (args : List Int) (b0 : Int) (R : Nat → Int) (s f : Int) : Mach := { startM 0 with R := R, pc := 65535, bank := b0 % 64, steps := s, f := f, st := [0, 65535] ++ args, sp := (([0, 65535] ++ args : List Int).length : Int) }
theorem call_run {E : Env} {n : Nat} {args : List Int} {base : Nat} {bk b0 : Int} (h : CallE E n args base bk) : ∃ (R : Nat → Int) (s f : Int), R 0 = args.sum % 65536 ∧ runM E 100 (cm base bk (cst args b0) (fun _ => 0) 0 0 0) = (cend args b0 R s f, (6, 0)) := by
  have hn := h.n8
  obtain ⟨R', s', f', a1, a2, a3, a4⟩ := call_rounds (b0 := b0) h n 0 (setR (fun _ => 0) 0 0) 1 0 (by omega) (by decide) (by decide) (by
    unfold sumB
    rw [List.drop_of_length_le (by omega)]
    rfl)
  refine ⟨R', s' + 1, f', ?_, ?_⟩
  · rw [a3, ← h.len]
    unfold sumB
    rw [Nat.sub_self, List.drop_zero]
  · rw [show (100 : Nat) = ((97 - 2 * n) + 1 + 1 + 2 * n) + 1 by omega, runM_ok (call_mov h (by decide) (by decide)), show (0 : Int) + 1 = 1 from rfl, show (3 : Nat) = 3 + 5 * 0 from rfl, a4]
    have he : execM E (addPc (cm base bk (cst args b0) R' (3 + 5 * n) s' f') 1) ⟨1, 0, 0, 0, 0, 0, 1⟩ 0 0 = .ok { cend args b0 R' s' f' with sp := ((cst args b0).length : Int) } := by
      show retM (addPc (cm base bk (cst args b0) R' (3 + 5 * n) s' f') 1) = _
      have hst : (addPc (cm base bk (cst args b0) R' (3 + 5 * n) s' f') 1).st = cst args b0 := rfl
      have hl := cst_len args b0
      unfold retM nth
      rw [hst, if_pos (by rw [hl]; omega)]
      have e1 : (cst args b0)[(cst args b0).length - 1]? = some 65535 := by
        rw [hl]
        unfold cst
        rw [List.getElem?_append_right (by simp)]
        simp
      have e2 : (cst args b0)[(cst args b0).length - 2]? = some b0 := by
        rw [hl]
        unfold cst
        rw [List.getElem?_append_right (by simp)]
        simp
      have e3 : (cst args b0).take ((cst args b0).length - 2) = [0, 65535] ++ args := by
        rw [hl]
        unfold cst
        rw [List.take_append_of_le_length (by simp), List.take_of_length_le (by simp)]
      rw [e1, e2, e3]
      rfl
    have hs : stepM E (cm base bk (cst args b0) R' (3 + 5 * n) s' f') = .ok (cend args b0 R' (s' + 1) f') := by
      rw [step_ok (p := 64 + (3 + 5 * n)) [1] ⟨1, 0, 0, 0, 0, 0, 1⟩ h.page rfl (by show 64 + (3 + 5 * n) + 1 ≤ 4096; omega) ((codeL_off 64 _ (3 + 5 * n) 1 (by omega)).trans (callB_ret n)) (by kernel_rfl) (by kernel_rfl) he]
      show Except.ok ({ cend args b0 R' s' f' with steps := wrap64 (s' + 1), sp := (([0, 65535] ++ args : List Int).length : Int) } : Mach) = _
      rw [wrap_small (s' + 1) (by omega) (by omega)]
      rfl
    rw [runM_ok hs]
    refine runM_err ?_ (by decide)
    unfold stepM fetchM
    rw [if_pos (show (cend args b0 R' (s' + 1) f').pc = 65535 from rfl)]
end Go.Proofs.Ytieaicdihingkaa
