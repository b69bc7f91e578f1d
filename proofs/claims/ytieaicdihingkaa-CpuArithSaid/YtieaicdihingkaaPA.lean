/- Plain: an arithmetic instruction, decoded and executed. -/
import Derived.Test.YtieaicdihingkaaPK
import Derived.Test.YtieaicdihingkaaA1
import Derived.Test.YtieaicdihingkaaA2
import Derived.Test.YtieaicdihingkaaK34
namespace Go.Proofs.Ytieaicdihingkaa
set_option linter.unusedVariables false
set_option linter.unusedSimpArgs false
open Go.RowKit
theorem codeL_off (o : Nat) (c : ByteArray) (p n : Nat) (h : o + p + n ≤ 4096) : codeL (pageB o c) (o + p) n = codeL c p n := by
  unfold codeL
  refine List.map_congr_left fun k hk => ?_
  have := List.mem_range.1 hk
  rw [byteI_page _ _ _ (by omega)]
  unfold pageI
  rw [if_pos (by omega), show o + p + k - o = p + k by omega]
theorem byteI_bytes (l : List Int) (j : Nat) (x : Int) (h : l[j]? = some x) (h0 : 0 ≤ x) (h1 : x < 256) : byteI ⟨(bytesI l).toArray⟩ j = x := by
  rw [byteI_list]
  unfold bytesI
  rw [List.getElem?_map, h]
  exact byte_one x h0 h1
theorem dec_by {s : ByteArray} {fs : List Int} {i : InsI} (h0 : s.size ≠ 0) (hf : fmtOf (byteI s 0) = some fs) (hz : ¬ (s.size : Int) < sizeI (byteI s 0)) (hr : readI s fs = i) (hv : validI i = true) : decI s = (i, 0) := by
  unfold decI
  rw [if_neg h0, hf]
  dsimp only
  rw [if_neg hz, hr, if_pos hv]
theorem sameI_refl (i : InsI) : sameI i i = true := by simp [sameI]
theorem valid_by {i : InsI} {fs : List Int} (hf : fmtOf i.op = some fs) (hfit : fs.all (fitI · i) = true) (hr : readI (encB i fs) fs = i) : validI i = true := by
  unfold validI
  rw [hf]
  dsimp only
  rw [hfit, hr, sameI_refl]
  rfl
theorem codeL_bytes (l : List Int) (h : ∀ x ∈ l, 0 ≤ x ∧ x < 256) : codeL ⟨(bytesI l).toArray⟩ 0 l.length = l := by
  unfold codeL
  refine List.ext_getElem? fun j => ?_
  by_cases hj : j < l.length
  · rw [List.getElem?_map, List.getElem?_range hj]
    have hx := List.getElem?_eq_getElem hj
    rw [hx]
    have hb := h _ (List.getElem_mem hj)
    show some (byteI ⟨(bytesI l).toArray⟩ (0 + j)) = some l[j]
    rw [Nat.zero_add, byteI_bytes l j l[j] hx hb.1 hb.2]
  · rw [List.getElem?_eq_none (by simpa using hj), List.getElem?_eq_none (by omega)]
theorem fmt_ar {op q j : Int} (h : ArOp op q j) : fmtOf op = some (if q = 2 then [1, 0, 0, 0] else if q = 3 then [2, 5, 0, 0] else [2, 6, 0, 0]) := by
  obtain ⟨hq, h0, h1, rfl⟩ := h
  have hj : j = 0 ∨ j = 1 ∨ j = 2 ∨ j = 3 ∨ j = 4 ∨ j = 5 ∨ j = 6 ∨ j = 7 ∨ j = 8 ∨ j = 9 ∨ j = 10 ∨ j = 11 ∨ j = 12 ∨ j = 13 ∨ j = 14 := by omega
  rcases hq with rfl | rfl | rfl <;> rcases hj with rfl | rfl | rfl | rfl | rfl | rfl | rfl | rfl | rfl | rfl | rfl | rfl | rfl | rfl | rfl <;> rfl
theorem size_ar {op q j : Int} (h : ArOp op q j) : sizeI op = q := by
  have hf := fmt_ar h
  unfold sizeI
  rw [hf]
  rcases h.hq with rfl | rfl | rfl <;> rfl
theorem dec_ar {op q j s imm : Int} (h : EncA op q j s imm) : decI ⟨(bytesI (rencA op q s imm)).toArray⟩ = (⟨op, 1, s, imm, 0, 0, q⟩, 0) := by
  have hb := rencA_bd h
  have hbd := h.bd
  have hf := fmt_ar h.ar
  have hs := size_ar h.ar
  have him := h.him
  rcases h.ar.hq with rfl | rfl | rfl
  · obtain ⟨rfl, rfl⟩ := h.c2 rfl
    have e : rencA op 2 2 0 = [op, 18] := rfl
    rw [e] at hb ⊢
    have b0 := byteI_bytes [op, 18] 0 op rfl hbd.1 hbd.2.1
    have b1 := byteI_bytes [op, 18] 1 18 rfl (by decide) (by decide)
    have hr : readI ⟨(bytesI [op, 18]).toArray⟩ [1, 0, 0, 0] = ⟨op, 1, 2, 0, 0, 0, 2⟩ := by
      simp [readI, rdAll, rdStep, b0, b1, hs]
    refine dec_by (by show 2 ≠ 0; decide) (by rw [b0]; exact hf) (by rw [b0, hs]; show ¬ (2 : Int) < 2; decide) hr (valid_by hf (by rfl) ?_)
    have : encB ⟨op, 1, 2, 0, 0, 0, 2⟩ [1, 0, 0, 0] = ⟨(bytesI [op, 18]).toArray⟩ := by
      unfold encB encL
      rw [show op % 256 = op by omega]
      rfl
    show readI (encB ⟨op, 1, 2, 0, 0, 0, 2⟩ [1, 0, 0, 0]) [1, 0, 0, 0] = _
    rw [this]
    exact hr
  · obtain ⟨rfl, hi⟩ := h.c3 rfl
    have e : rencA op 3 0 imm = [op, 1, imm % 256] := rfl
    rw [e] at hb ⊢
    have b0 := byteI_bytes [op, 1, imm % 256] 0 op rfl hbd.1 hbd.2.1
    have b1 := byteI_bytes [op, 1, imm % 256] 1 1 rfl (by decide) (by decide)
    have b2 := byteI_bytes [op, 1, imm % 256] 2 (imm % 256) rfl (by omega) (by omega)
    have hx : extI (imm % 256) = imm := by
      unfold extI
      split <;> (have := him.1; have := him.2; omega)
    have hr : readI ⟨(bytesI [op, 1, imm % 256]).toArray⟩ [2, 5, 0, 0] = ⟨op, 1, 0, imm, 0, 0, 3⟩ := by
      simp [readI, rdAll, rdStep, widthI, b0, b1, b2, hs, hx]
    refine dec_by (by show 3 ≠ 0; decide) (by rw [b0]; exact hf) (by rw [b0, hs]; show ¬ (3 : Int) < 3; decide) hr (valid_by hf (by simp [fitI, regI, hx]) ?_)
    have : encB ⟨op, 1, 0, imm, 0, 0, 3⟩ [2, 5, 0, 0] = ⟨(bytesI [op, 1, imm % 256]).toArray⟩ := by
      unfold encB encL
      rw [show op % 256 = op by omega]
      rfl
    show readI (encB ⟨op, 1, 0, imm, 0, 0, 3⟩ [2, 5, 0, 0]) [2, 5, 0, 0] = _
    rw [this]
    exact hr
  · obtain rfl := h.c4 rfl
    have e : rencA op 4 0 imm = [op, 1, imm % 256, imm / 256] := rfl
    rw [e] at hb ⊢
    have b0 := byteI_bytes [op, 1, imm % 256, imm / 256] 0 op rfl hbd.1 hbd.2.1
    have b1 := byteI_bytes [op, 1, imm % 256, imm / 256] 1 1 rfl (by decide) (by decide)
    have b2 := byteI_bytes [op, 1, imm % 256, imm / 256] 2 (imm % 256) rfl (by omega) (by omega)
    have b3 := byteI_bytes [op, 1, imm % 256, imm / 256] 3 (imm / 256) rfl (by have := him.1; omega) (by have := him.2; omega)
    have hx : imm % 256 + imm / 256 * 256 = imm := by omega
    have hr : readI ⟨(bytesI [op, 1, imm % 256, imm / 256]).toArray⟩ [2, 6, 0, 0] = ⟨op, 1, 0, imm, 0, 0, 4⟩ := by
      simp [readI, rdAll, rdStep, widthI, wordI, b0, b1, b2, b3, hs, hx]
    refine dec_by (by show 4 ≠ 0; decide) (by rw [b0]; exact hf) (by rw [b0, hs]; show ¬ (4 : Int) < 4; decide) hr (valid_by hf (by rfl) ?_)
    have : encB ⟨op, 1, 0, imm, 0, 0, 4⟩ [2, 6, 0, 0] = ⟨(bytesI [op, 1, imm % 256, imm / 256]).toArray⟩ := by
      unfold encB encL
      rw [show op % 256 = op by omega]
      rfl
    show readI (encB ⟨op, 1, 0, imm, 0, 0, 4⟩ [2, 6, 0, 0]) [2, 6, 0, 0] = _
    rw [this]
    exact hr
theorem setR_self (r : Nat → Int) (d : Nat) : setR r d (r d) = r := by
  funext i
  unfold setR
  split
  · rename_i h; rw [h]
  · rfl
theorem arith_eq {m : Mach} {op b : Int} {d : Nat} (o0 : 32 ≤ op) (o1 : op ≤ 46) : arithM m op d b = if (arR op (m.R d) b m.f).2.2 = true then .error (4, 0) else .ok { m with f := (arR op (m.R d) b m.f).2.1, R := setR m.R d (arR op (m.R d) b m.f).1 } := by
  have hop : op = 32 ∨ op = 33 ∨ op = 34 ∨ op = 35 ∨ op = 36 ∨ op = 37 ∨ op = 38 ∨ op = 39 ∨ op = 40 ∨ op = 41 ∨ op = 42 ∨ op = 43 ∨ op = 44 ∨ op = 45 ∨ op = 46 := by omega
  rcases hop with rfl | rfl | rfl | rfl | rfl | rfl | rfl | rfl | rfl | rfl | rfl | rfl | rfl | rfl | rfl
  case inr.inr.inr.inr.inr.inr.inr.inr.inr.inr.inr.inl =>
    by_cases h0 : b = 0
    · subst h0
      simp [arithM, arR, resI, setRF, setR_self]
    · simp [arithM, arR, resI, setRF, setR_self, h0]
  all_goals simp [arithM, arR, resI, setRF, setR_self]
def aR (a b : Int) : Nat → Int := setR (setR (fun _ => 0) 1 a) 2 b
def am (a b f : Int) : Mach := { startM 0 with R := aR a b, f := f }
def aend (a b f base q : Int) : Mach := { startM 0 with R := setR (aR a b) 1 (arR base a b f).1, f := (arR base a b f).2.1, pc := q, steps := 1 }
theorem ar_exec {E : Env} {m : Mach} {op q j s imm b : Int} (h : EncA op q j s imm) (hb : (q = 2 → m.R 2 = b) ∧ (q ≠ 2 → imm = b)) : execM E m ⟨op, 1, s, imm, 0, 0, q⟩ 1 s.toNat = arithM m (32 + j) 1 b := by
  obtain ⟨hq, h0, h1, hop⟩ := h.ar
  unfold execM
  dsimp only
  rw [if_neg (by omega), if_neg (by omega), if_neg (by omega), if_neg (by omega), if_neg (by omega), if_neg (by omega)]
  rcases hq with rfl | rfl | rfl
  · obtain ⟨rfl, _⟩ := h.c2 rfl
    rw [if_pos (by omega), show (2 : Int).toNat = 2 from rfl, hb.1 rfl, show op = 32 + j by omega]
  · rw [if_neg (by omega), if_pos (by omega), hb.2 (by decide), show op - 16 = 32 + j by omega]
  · rw [if_neg (by omega), if_neg (by omega), if_pos (by omega), hb.2 (by decide), show op - 32 = 32 + j by omega]
theorem ar_step {E : Env} {op q j s imm a b f : Int} (h : EncA op q j s imm) (hE : E.banks = [pageB 0 (rencAB op q s imm)]) (hb : q ≠ 2 → imm = b) :
    stepR E (am a b f) = if (arR (32 + j) a b f).2.2 = true then (am a b f, (4, 0)) else (aend a b f (32 + j) q, (0, 0)) := by
  have hP : PageAt E 0 (pageB 0 (rencAB op q s imm)) 0 := page_at0 0 hE (pageB_size 0 _)
  have hbd := h.bd
  have hlen : ((rencA op q s imm).length : Int) = q := by
    unfold rencA
    rcases h.ar.hq with rfl | rfl | rfl <;> rfl
  have hlp := rencA_len op q s imm
  have hd : decide (1 ≤ (rencA op q s imm).length ∧ fetchN ((rencA op q s imm).headD 0) = (rencA op q s imm).length) = true := by
    refine decide_eq_true ⟨hlp.1, ?_⟩
    have hh : (rencA op q s imm).headD 0 = op := by
      unfold rencA
      repeat' split
      all_goals rfl
    rw [hh]
    unfold fetchN
    rw [size_ar h.ar]
    omega
  have hl : codeL (pageB 0 (rencAB op q s imm)) 0 (rencA op q s imm).length = rencA op q s imm := (codeL_off 0 _ 0 _ (by omega)).trans (codeL_bytes _ (rencA_bd h))
  have he := ar_exec (E := E) (m := addPc (am a b f) q) (b := b) h ⟨fun _ => rfl, hb⟩
  rw [arith_eq (by have := h.ar.j0; omega) (by have := h.ar.j1; omega)] at he
  have e1 : (addPc (am a b f) q).R 1 = a := rfl
  have e2 : (addPc (am a b f) q).f = f := rfl
  rw [e1, e2] at he
  unfold stepR
  cases hv : (arR (32 + j) a b f).2.2
  · rw [hv, if_neg (by decide)] at he
    rw [step_ok (p := 0) (rencA op q s imm) ⟨op, 1, s, imm, 0, 0, q⟩ hP rfl (by omega) hl hd (dec_ar h) he]
    have hpc : ((0 : Int) + q) % 65536 = q := by omega
    show (({ startM 0 with R := setR (aR a b) 1 (arR (32 + j) a b f).1, f := (arR (32 + j) a b f).2.1, pc := ((0 : Int) + q) % 65536, steps := wrap64 (0 + 1), sp := ((2 : Nat) : Int) } : Mach), ((0 : Int), (0 : Int))) = _
    rw [hpc, wrap_small (0 + 1) (by decide) (by decide)]
    rfl
  · rw [hv, if_pos rfl] at he
    rw [step_bad (p := 0) (rencA op q s imm) ⟨op, 1, s, imm, 0, 0, q⟩ hP rfl (by omega) hl hd (dec_ar h) he]
    rfl
theorem arR_ok {op a b f : Int} (o0 : 32 ≤ op) (o1 : op ≤ 46) (ha : OkU16 a) (hb : OkU16 b) (hf : OkU16 f) : OkU16 (arR op a b f).1 ∧ OkU16 (arR op a b f).2.1 := by
  have hop : op = 32 ∨ op = 33 ∨ op = 34 ∨ op = 35 ∨ op = 36 ∨ op = 37 ∨ op = 38 ∨ op = 39 ∨ op = 40 ∨ op = 41 ∨ op = 42 ∨ op = 43 ∨ op = 44 ∨ op = 45 ∨ op = 46 := by omega
  have hAND := bitsU16_ok .and (.inl rfl) a b ha.1 ha.2 hb.1 hb.2
  have hOR := bitsU16_ok .or (.inr (.inl rfl)) a b ha.1 ha.2 hb.1 hb.2
  have hXOR := bitsU16_ok .xor (.inr (.inr rfl)) a b ha.1 ha.2 hb.1 hb.2
  have hW := withI_ok f
  have hA := addR_ok a b
  have hAF := addF_ok a b
  have hS : ∀ c, OkU16 (subR a b c) := fun c => addR_ok a (65535 - b) c
  have hSF : ∀ c, OkU16 (subF a b c) := fun c => addF_ok a (65535 - b) c
  have hSH : ∀ k, OkU16 (shN k a (b % 16).toNat) := fun k => shN_ok k a (b % 16).toNat ha.1 ha.2
  have hMU : OkU16 ((a * b) % 65536) := ⟨by omega, by omega⟩
  have hDV : OkU16 (a / b) := ⟨Int.ediv_nonneg ha.1 hb.1, Int.lt_of_le_of_lt (Int.ediv_le_self _ ha.1) ha.2⟩
  rcases hop with rfl | rfl | rfl | rfl | rfl | rfl | rfl | rfl | rfl | rfl | rfl | rfl | rfl | rfl | rfl
  case inr.inr.inr.inr.inr.inr.inr.inr.inr.inr.inr.inl =>
    by_cases h0 : b = 0
    · simp [arR, h0, ha, hf]
    · simp [arR, resI, h0, hDV, hW]
  all_goals simp [arR, resI, *]
end Go.Proofs.Ytieaicdihingkaa
