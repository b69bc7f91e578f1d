/- The reference's Decode: the plain law (it decodes as the package does). -/
import Derived.Test.YtieaicdihingkaaGreatZ13
namespace Go.Proofs.YtieaicdihingkaaGreat
set_option linter.unusedVariables false
set_option linter.unusedSimpArgs false
open Go.RowKit
def fsL : List (List Int) := [[], [0, 0, 0, 0], [2, 0, 0, 0], [4, 0, 0, 0], [1, 0, 0, 0], [2, 5, 0, 0], [2, 6, 0, 0], [1, 5, 0, 0], [1, 6, 0, 0], [2, 6, 0, 0], [5, 0, 0, 0], [6, 0, 0, 0], [8, 6, 0, 0], [2, 9, 6, 7], [2, 6, 0, 0], [2, 4, 0, 0], [1, 8, 6, 0], [3, 6, 7, 0], [2, 5, 0, 0]]
/-- The fields of a format of the reference. -/
def fsOf (f : Int) : List Int := (fsL[f.toNat]?).getD []
theorem fmt_table : ((List.range 256).all fun k : Nat => decide (fmtOf (k : Int) = if rfmt (k : Int) = 0 then none else some (fsOf (rfmt (k : Int)))) && decide (sizeI (k : Int) = rsize (k : Int))) = true := by kernel_rfl
theorem fmt_eq (b : Int) (h0 : 0 ≤ b) (h1 : b < 256) : fmtOf b = (if rfmt b = 0 then none else some (fsOf (rfmt b))) ∧ sizeI b = rsize b := by
 obtain ⟨k, rfl⟩ : ∃ k : Nat, b = (k : Int) := ⟨b.toNat, by omega⟩
 have h := List.all_eq_true.1 fmt_table k (List.mem_range.2 (by omega))
 rw [Bool.and_eq_true] at h
 exact ⟨of_decide_eq_true h.1, of_decide_eq_true h.2⟩
theorem byteI_mk (l : List Int) (k : Nat) (x : Int) (h : l[k]? = some x) (h0 : 0 ≤ x) (h1 : x < 256) : byteI ⟨(bytesI l).toArray⟩ k = x := by
 unfold byteI bytesI
 dsimp only
 rw [List.getElem?_map, h]
 exact byte_one x h0 h1
theorem ext_mod (b : Int) (h0 : 0 ≤ b) (h1 : b < 256) : extI b % 256 = b := by unfold extI; split <;> omega
theorem ext_sg (b : Int) (h0 : 0 ≤ b) (h1 : b < 256) : (decide (extI b < 128) || decide (65408 ≤ extI b)) = true := by
 unfold extI
 split
 ·rw [decide_eq_true (by omega)]; rfl
 ·rw [decide_eq_true (p := 65408 ≤ b + 65280) (by omega)]; simp
/-- The first n bytes. -/
def bytesN (s : ByteArray) (n : Nat) : List Int := (List.range n).map fun k => byteI s k
theorem bytesN_at (s : ByteArray) (n k : Nat) (h : k < n) : byteI ⟨(bytesI (bytesN s n)).toArray⟩ k = byteI s k :=
 byteI_mk _ _ _ (by unfold bytesN; rw [List.getElem?_map, List.getElem?_range h]; rfl) (byteI_bd s k).1 (byteI_bd s k).2
theorem valid_of {i : InsI} {fs : List Int} {s : ByteArray} {n : Nat} (hf : fmtOf i.op = some fs) (hl : encL i fs = bytesN s n) (h : sameI (readI ⟨(bytesI (bytesN s n)).toArray⟩ fs) i = true) : validI i = fs.all (fitI · i) := by
 unfold validI
 rw [hf]
 dsimp only
 unfold encB
 rw [hl, h, Bool.and_true]
set_option maxRecDepth 20000 in
set_option maxHeartbeats 20000000 in
theorem read_eq (s : ByteArray) (f : Int) (hf : rfmt (byteI s 0) = f) (h0 : f ≠ 0) : rI f s = readI s (fsOf f) ∧ validI (readI s (fsOf f)) = rvalidI (readI s (fsOf f)) := by
 have hbd := rfmt_bd (byteI s 0)
 have B := byteI_bd s 0
 have B1 := byteI_bd s 1
 have B2 := byteI_bd s 2
 have B3 := byteI_bd s 3
 have B4 := byteI_bd s 4
 have B5 := byteI_bd s 5
 have B6 := byteI_bd s 6
 have ht := fmt_eq (byteI s 0) B.1 B.2
 rw [hf] at hbd ht
 rw [if_neg h0] at ht
 obtain ⟨ht, hz⟩ := ht
 obtain ⟨j, hj, hj1, hj2⟩ : ∃ j : Nat, f = (j : Int) ∧ 1 ≤ j ∧ j ≤ 18 := ⟨f.toNat, by omega, by omega, by omega⟩
 subst hj
 have e0 : byteI s 0 % 256 = byteI s 0 := by omega
 have x1 := ext_mod _ B1.1 B1.2
 have x2 := ext_mod _ B2.1 B2.2
 have y1 := ext_sg _ B1.1 B1.2
 have y2 := ext_sg _ B2.1 B2.2
 have hjj : j = 1 ∨ j = 2 ∨ j = 3 ∨ j = 4 ∨ j = 5 ∨ j = 6 ∨ j = 7 ∨ j = 8 ∨ j = 9 ∨ j = 10 ∨ j = 11 ∨ j = 12 ∨ j = 13 ∨ j = 14 ∨ j = 15 ∨ j = 16 ∨ j = 17 ∨ j = 18 := by omega
 rcases hjj with rfl | rfl | rfl | rfl | rfl | rfl | rfl | rfl | rfl | rfl | rfl | rfl | rfl | rfl | rfl | rfl | rfl | rfl
 ·rw [show fsOf ((1 : Nat) : Int) = [0, 0, 0, 0] from rfl] at ht ⊢
  have hrd : ∀ t, readI t [0, 0, 0, 0] = ⟨byteI t 0, 0, 0, 0, 0, 0, sizeI (byteI t 0)⟩ := fun t => by simp [readI, rdAll, rdStep, widthI]
  rw [hrd]
  refine ⟨by simp [rI, hz], ?_⟩
  rw [valid_of (s := s) (n := 1) ht (by simp [encL, putL, wordI, e0, x1, x2, bytesN, List.range, List.range.loop]; try omega) (by rw [hrd]; simp [sameI, wordI, bytesN_at])]
  unfold rvalidI
  dsimp only
  rw [hf, e0, hz]
  simp [rvF, fitI, regI, x1, x2, y1, y2]
 ·rw [show fsOf ((2 : Nat) : Int) = [2, 0, 0, 0] from rfl] at ht ⊢
  have hrd : ∀ t, readI t [2, 0, 0, 0] = ⟨byteI t 0, byteI t 1, 0, 0, 0, 0, sizeI (byteI t 0)⟩ := fun t => by simp [readI, rdAll, rdStep, widthI]
  rw [hrd]
  refine ⟨by simp [rI, hz], ?_⟩
  rw [valid_of (s := s) (n := 2) ht (by simp [encL, putL, wordI, e0, x1, x2, bytesN, List.range, List.range.loop]; try omega) (by rw [hrd]; simp [sameI, wordI, bytesN_at])]
  unfold rvalidI
  dsimp only
  rw [hf, e0, hz]
  simp [rvF, fitI, regI, x1, x2, y1, y2]
 ·rw [show fsOf ((3 : Nat) : Int) = [4, 0, 0, 0] from rfl] at ht ⊢
  have hrd : ∀ t, readI t [4, 0, 0, 0] = ⟨byteI t 0, 0, 0, byteI t 1, 0, 0, sizeI (byteI t 0)⟩ := fun t => by simp [readI, rdAll, rdStep, widthI]
  rw [hrd]
  refine ⟨by simp [rI, hz], ?_⟩
  rw [valid_of (s := s) (n := 2) ht (by simp [encL, putL, wordI, e0, x1, x2, bytesN, List.range, List.range.loop]; try omega) (by rw [hrd]; simp [sameI, wordI, bytesN_at])]
  unfold rvalidI
  dsimp only
  rw [hf, e0, hz]
  simp [rvF, fitI, regI, x1, x2, y1, y2]
 ·rw [show fsOf ((4 : Nat) : Int) = [1, 0, 0, 0] from rfl] at ht ⊢
  have hrd : ∀ t, readI t [1, 0, 0, 0] = ⟨byteI t 0, byteI t 1 / 16, byteI t 1 % 16, 0, 0, 0, sizeI (byteI t 0)⟩ := fun t => by simp [readI, rdAll, rdStep, widthI]
  rw [hrd]
  refine ⟨by simp [rI, hz], ?_⟩
  rw [valid_of (s := s) (n := 2) ht (by simp [encL, putL, wordI, e0, x1, x2, bytesN, List.range, List.range.loop]; try omega) (by rw [hrd]; simp [sameI, wordI, bytesN_at])]
  unfold rvalidI
  dsimp only
  rw [hf, e0, hz]
  simp [rvF, fitI, regI, x1, x2, y1, y2]
 ·rw [show fsOf ((5 : Nat) : Int) = [2, 5, 0, 0] from rfl] at ht ⊢
  have hrd : ∀ t, readI t [2, 5, 0, 0] = ⟨byteI t 0, byteI t 1, 0, extI (byteI t 2), 0, 0, sizeI (byteI t 0)⟩ := fun t => by simp [readI, rdAll, rdStep, widthI]
  rw [hrd]
  refine ⟨by simp [rI, hz], ?_⟩
  rw [valid_of (s := s) (n := 3) ht (by simp [encL, putL, wordI, e0, x1, x2, bytesN, List.range, List.range.loop]; try omega) (by rw [hrd]; simp [sameI, wordI, bytesN_at])]
  unfold rvalidI
  dsimp only
  rw [hf, e0, hz]
  simp [rvF, fitI, regI, x1, x2, y1, y2]
 ·rw [show fsOf ((6 : Nat) : Int) = [2, 6, 0, 0] from rfl] at ht ⊢
  have hrd : ∀ t, readI t [2, 6, 0, 0] = ⟨byteI t 0, byteI t 1, 0, wordI t 2, 0, 0, sizeI (byteI t 0)⟩ := fun t => by simp [readI, rdAll, rdStep, widthI]
  rw [hrd]
  refine ⟨by simp [rI, hz], ?_⟩
  rw [valid_of (s := s) (n := 4) ht (by simp [encL, putL, wordI, e0, x1, x2, bytesN, List.range, List.range.loop]; try omega) (by rw [hrd]; simp [sameI, wordI, bytesN_at])]
  unfold rvalidI
  dsimp only
  rw [hf, e0, hz]
  simp [rvF, fitI, regI, x1, x2, y1, y2]
 ·rw [show fsOf ((7 : Nat) : Int) = [1, 5, 0, 0] from rfl] at ht ⊢
  have hrd : ∀ t, readI t [1, 5, 0, 0] = ⟨byteI t 0, byteI t 1 / 16, byteI t 1 % 16, extI (byteI t 2), 0, 0, sizeI (byteI t 0)⟩ := fun t => by simp [readI, rdAll, rdStep, widthI]
  rw [hrd]
  refine ⟨by simp [rI, hz], ?_⟩
  rw [valid_of (s := s) (n := 3) ht (by simp [encL, putL, wordI, e0, x1, x2, bytesN, List.range, List.range.loop]; try omega) (by rw [hrd]; simp [sameI, wordI, bytesN_at])]
  unfold rvalidI
  dsimp only
  rw [hf, e0, hz]
  simp [rvF, fitI, regI, x1, x2, y1, y2]
 ·rw [show fsOf ((8 : Nat) : Int) = [1, 6, 0, 0] from rfl] at ht ⊢
  have hrd : ∀ t, readI t [1, 6, 0, 0] = ⟨byteI t 0, byteI t 1 / 16, byteI t 1 % 16, wordI t 2, 0, 0, sizeI (byteI t 0)⟩ := fun t => by simp [readI, rdAll, rdStep, widthI]
  rw [hrd]
  refine ⟨by simp [rI, hz], ?_⟩
  rw [valid_of (s := s) (n := 4) ht (by simp [encL, putL, wordI, e0, x1, x2, bytesN, List.range, List.range.loop]; try omega) (by rw [hrd]; simp [sameI, wordI, bytesN_at])]
  unfold rvalidI
  dsimp only
  rw [hf, e0, hz]
  simp [rvF, fitI, regI, x1, x2, y1, y2]
 ·rw [show fsOf ((9 : Nat) : Int) = [2, 6, 0, 0] from rfl] at ht ⊢
  have hrd : ∀ t, readI t [2, 6, 0, 0] = ⟨byteI t 0, byteI t 1, 0, wordI t 2, 0, 0, sizeI (byteI t 0)⟩ := fun t => by simp [readI, rdAll, rdStep, widthI]
  rw [hrd]
  refine ⟨by simp [rI, hz], ?_⟩
  rw [valid_of (s := s) (n := 4) ht (by simp [encL, putL, wordI, e0, x1, x2, bytesN, List.range, List.range.loop]; try omega) (by rw [hrd]; simp [sameI, wordI, bytesN_at])]
  unfold rvalidI
  dsimp only
  rw [hf, e0, hz]
  simp [rvF, fitI, regI, x1, x2, y1, y2]
 ·rw [show fsOf ((10 : Nat) : Int) = [5, 0, 0, 0] from rfl] at ht ⊢
  have hrd : ∀ t, readI t [5, 0, 0, 0] = ⟨byteI t 0, 0, 0, extI (byteI t 1), 0, 0, sizeI (byteI t 0)⟩ := fun t => by simp [readI, rdAll, rdStep, widthI]
  rw [hrd]
  refine ⟨by simp [rI, hz], ?_⟩
  rw [valid_of (s := s) (n := 2) ht (by simp [encL, putL, wordI, e0, x1, x2, bytesN, List.range, List.range.loop]; try omega) (by rw [hrd]; simp [sameI, wordI, bytesN_at])]
  unfold rvalidI
  dsimp only
  rw [hf, e0, hz]
  simp [rvF, fitI, regI, x1, x2, y1, y2]
 ·rw [show fsOf ((11 : Nat) : Int) = [6, 0, 0, 0] from rfl] at ht ⊢
  have hrd : ∀ t, readI t [6, 0, 0, 0] = ⟨byteI t 0, 0, 0, wordI t 1, 0, 0, sizeI (byteI t 0)⟩ := fun t => by simp [readI, rdAll, rdStep, widthI]
  rw [hrd]
  refine ⟨by simp [rI, hz], ?_⟩
  rw [valid_of (s := s) (n := 3) ht (by simp [encL, putL, wordI, e0, x1, x2, bytesN, List.range, List.range.loop]; try omega) (by rw [hrd]; simp [sameI, wordI, bytesN_at])]
  unfold rvalidI
  dsimp only
  rw [hf, e0, hz]
  simp [rvF, fitI, regI, x1, x2, y1, y2]
 ·rw [show fsOf ((12 : Nat) : Int) = [8, 6, 0, 0] from rfl] at ht ⊢
  have hrd : ∀ t, readI t [8, 6, 0, 0] = ⟨byteI t 0, 0, 0, wordI t 2, 0, byteI t 1, sizeI (byteI t 0)⟩ := fun t => by simp [readI, rdAll, rdStep, widthI]
  rw [hrd]
  refine ⟨by simp [rI, hz], ?_⟩
  rw [valid_of (s := s) (n := 4) ht (by simp [encL, putL, wordI, e0, x1, x2, bytesN, List.range, List.range.loop]; try omega) (by rw [hrd]; simp [sameI, wordI, bytesN_at])]
  unfold rvalidI
  dsimp only
  rw [hf, e0, hz]
  simp [rvF, fitI, regI, x1, x2, y1, y2]
 ·rw [show fsOf ((13 : Nat) : Int) = [2, 9, 6, 7] from rfl] at ht ⊢
  have hrd : ∀ t, readI t [2, 9, 6, 7] = ⟨byteI t 0, byteI t 1, 0, wordI t 3, wordI t 5, byteI t 2, sizeI (byteI t 0)⟩ := fun t => by simp [readI, rdAll, rdStep, widthI]
  rw [hrd]
  refine ⟨by simp [rI, hz], ?_⟩
  rw [valid_of (s := s) (n := 7) ht (by simp [encL, putL, wordI, e0, x1, x2, bytesN, List.range, List.range.loop]; try omega) (by rw [hrd]; simp [sameI, wordI, bytesN_at])]
  unfold rvalidI
  dsimp only
  rw [hf, e0, hz]
  simp [rvF, fitI, regI, x1, x2, y1, y2]
  simp only [Bool.and_assoc]
 ·rw [show fsOf ((14 : Nat) : Int) = [2, 6, 0, 0] from rfl] at ht ⊢
  have hrd : ∀ t, readI t [2, 6, 0, 0] = ⟨byteI t 0, byteI t 1, 0, wordI t 2, 0, 0, sizeI (byteI t 0)⟩ := fun t => by simp [readI, rdAll, rdStep, widthI]
  rw [hrd]
  refine ⟨by simp [rI, hz], ?_⟩
  rw [valid_of (s := s) (n := 4) ht (by simp [encL, putL, wordI, e0, x1, x2, bytesN, List.range, List.range.loop]; try omega) (by rw [hrd]; simp [sameI, wordI, bytesN_at])]
  unfold rvalidI
  dsimp only
  rw [hf, e0, hz]
  simp [rvF, fitI, regI, x1, x2, y1, y2]
 ·rw [show fsOf ((15 : Nat) : Int) = [2, 4, 0, 0] from rfl] at ht ⊢
  have hrd : ∀ t, readI t [2, 4, 0, 0] = ⟨byteI t 0, byteI t 1, 0, byteI t 2, 0, 0, sizeI (byteI t 0)⟩ := fun t => by simp [readI, rdAll, rdStep, widthI]
  rw [hrd]
  refine ⟨by simp [rI, hz], ?_⟩
  rw [valid_of (s := s) (n := 3) ht (by simp [encL, putL, wordI, e0, x1, x2, bytesN, List.range, List.range.loop]; try omega) (by rw [hrd]; simp [sameI, wordI, bytesN_at])]
  unfold rvalidI
  dsimp only
  rw [hf, e0, hz]
  simp [rvF, fitI, regI, x1, x2, y1, y2]
 ·rw [show fsOf ((16 : Nat) : Int) = [1, 8, 6, 0] from rfl] at ht ⊢
  have hrd : ∀ t, readI t [1, 8, 6, 0] = ⟨byteI t 0, byteI t 1 / 16, byteI t 1 % 16, wordI t 3, 0, byteI t 2, sizeI (byteI t 0)⟩ := fun t => by simp [readI, rdAll, rdStep, widthI]
  rw [hrd]
  refine ⟨by simp [rI, hz], ?_⟩
  rw [valid_of (s := s) (n := 5) ht (by simp [encL, putL, wordI, e0, x1, x2, bytesN, List.range, List.range.loop]; try omega) (by rw [hrd]; simp [sameI, wordI, bytesN_at])]
  unfold rvalidI
  dsimp only
  rw [hf, e0, hz]
  simp [rvF, fitI, regI, x1, x2, y1, y2]
 ·rw [show fsOf ((17 : Nat) : Int) = [3, 6, 7, 0] from rfl] at ht ⊢
  have hrd : ∀ t, readI t [3, 6, 7, 0] = ⟨byteI t 0, 0, byteI t 1, wordI t 2, wordI t 4, 0, sizeI (byteI t 0)⟩ := fun t => by simp [readI, rdAll, rdStep, widthI]
  rw [hrd]
  refine ⟨by simp [rI, hz], ?_⟩
  rw [valid_of (s := s) (n := 6) ht (by simp [encL, putL, wordI, e0, x1, x2, bytesN, List.range, List.range.loop]; try omega) (by rw [hrd]; simp [sameI, wordI, bytesN_at])]
  unfold rvalidI
  dsimp only
  rw [hf, e0, hz]
  simp [rvF, fitI, regI, x1, x2, y1, y2]
 ·rw [show fsOf ((18 : Nat) : Int) = [2, 5, 0, 0] from rfl] at ht ⊢
  have hrd : ∀ t, readI t [2, 5, 0, 0] = ⟨byteI t 0, byteI t 1, 0, extI (byteI t 2), 0, 0, sizeI (byteI t 0)⟩ := fun t => by simp [readI, rdAll, rdStep, widthI]
  rw [hrd]
  refine ⟨by simp [rI, hz], ?_⟩
  rw [valid_of (s := s) (n := 3) ht (by simp [encL, putL, wordI, e0, x1, x2, bytesN, List.range, List.range.loop]; try omega) (by rw [hrd]; simp [sameI, wordI, bytesN_at])]
  unfold rvalidI
  dsimp only
  rw [hf, e0, hz]
  simp [rvF, fitI, regI, x1, x2, y1, y2]
theorem rsize_zero (b : Int) : rsize b = 0 ↔ rfmt b = 0 := by
 have h := rfmt_bd b
 unfold rsize
 obtain ⟨j, hj, hj2⟩ : ∃ j : Nat, rfmt b = (j : Int) ∧ j ≤ 18 := ⟨(rfmt b).toNat, by omega, by omega⟩
 rw [hj, Int.toNat_natCast]
 have : ∀ j : Nat, j ≤ 18 → ((rsizeL[j]?).getD 0 = 0 ↔ (j : Int) = 0) := by decide
 exact this j hj2
theorem decI_cases (s : ByteArray) (h0 : s.size ≠ 0) : decI s = if rsize (byteI s 0) = 0 then (zeroI, 11) else if (s.size : Int) < rsize (byteI s 0) then (zeroI, 10) else if rvalidI (rI (rfmt (byteI s 0)) s) = true then (rI (rfmt (byteI s 0)) s, 0) else (zeroI, 11) := by
 have B := byteI_bd s 0
 have ht := fmt_eq _ B.1 B.2
 unfold decI
 rw [if_neg h0, ht.1, ht.2]
 by_cases hf : rfmt (byteI s 0) = 0
 ·rw [if_pos hf, if_pos ((rsize_zero _).2 hf)]
 ·rw [if_neg hf, if_neg (fun h => hf ((rsize_zero _).1 h))]
  dsimp only
  obtain ⟨ha, hb⟩ := read_eq s _ rfl hf
  rw [hb, ha]
set_option maxRecDepth 20000 in
set_option maxHeartbeats 8000000 in
theorem decode_z (s : ByteArray) (w : World) : Calls Tryz.prog 48 #[.string s] w fun e w' => e = .returned (.tuple #[.agg (decI s).1.cells.toArray, .int .i64 (decI s).2]) ∧ Below w.heap.size w w' := by
 have HA : Hid ((w.alloc (.cells #[.int .i64 0, .int .i64 0, .int .i64 0, .int .u16 0, .int .u16 0, .int .i64 0, .int .i64 0] 68)).heap[w.heap.size]? = some (.cells #[.int .i64 0, .int .i64 0, .int .i64 0, .int .u16 0, .int .u16 0, .int .i64 0, .int .i64 0] 68 (0, 0))) := Lib.hid (alloc_at w _)
 have HB : Hid (∀ V, Below (w.alloc (.cells #[.int .i64 0, .int .i64 0, .int .i64 0, .int .u16 0, .int .u16 0, .int .i64 0, .int .i64 0] 68)).heap.size (w.alloc (.cells #[.int .i64 0, .int .i64 0, .int .i64 0, .int .u16 0, .int .u16 0, .int .i64 0, .int .i64 0] 68)) V → Below w.heap.size w V) := Lib.hid fun V hV => below_next (below1 w _) hV
 have he : (s.toList.isEmpty) = decide (s.size = 0) := empty_list s
 obtain ⟨p, hp⟩ : ∃ p, w.heap.size = p := ⟨_, rfl⟩
 have HPW : Hid (w.heap.size ≤ p) := Lib.hid (Nat.le_of_eq hp)
 by_cases h0 : s.size = 0
 ·have hr : decI s = (zeroI, 10) := by unfold decI; rw [if_pos h0]
  rw [hr]
  rw [decide_eq_true h0] at he
  have d0 : ((s.size : Int) == 0) = true := by rw [h0]; rfl
  have d1 : (s.size == 0) = true := by rw [h0]; rfl
  clear hr
  go_enter Tryz.func48, Tryz.ntmps48
  go_upto_region 1 with (fail)
  rw [hp] at HA
  generalize w.alloc _ = W0 at *
  obtain ⟨⟨k0, k1, k2, k3, k4, k5, k6⟩, g0, g1, g2, g3, g4, g5, g6⟩ := cells7 HA.out
  clear hp
  go_wp2_with fail
  refine bodyPost_ret (v := .tuple #[.agg zeroI.cells.toArray, .int .i64 10]) (by simp [results, Tryz.results48, go_sem, zeroI, InsI.cells, *]) rfl ⟨rfl, ?_⟩
  iterate 7
   refine Below.setCell ?_ (p := ⟨p, _, none⟩) HPW.out _
  exact HB.out _ (Below.refl _ _)
 have B := byteI_bd s 0
 have hz : 0 < s.size := by omega
 have a0 := byteI_at s 0 hz
 have iz : (0 : Int) < (s.size : Int) := by omega
 rw [decide_eq_false h0] at he
 have d0 : ((s.size : Int) == 0) = false := by rw [beq_eq_false_iff_ne]; omega
 have d1 : (s.size == 0) = false := by rw [beq_eq_false_iff_ne]; omega
 have HS : Hid (∀ W, Calls Tryz.prog 47 #[.int .u8 (byteI s 0)] W fun e w' => e = .returned (.int .i64 (rsize (byteI s 0))) ∧ Below W.heap.size W w') := Lib.hid fun W => rsize_any _ W B.1 B.2
 have HC := Lib.hid (decI_cases s h0)
 obtain ⟨b0, hb0⟩ : ∃ b, byteI s 0 = b := ⟨_, rfl⟩
 have HB0 := Lib.hid hb0
 rw [hb0] at HS a0
 obtain ⟨z, hzz⟩ : ∃ z, rsize b0 = z := ⟨_, rfl⟩
 rw [hzz] at HS
 have HZZ := Lib.hid hzz
 obtain ⟨R, hR⟩ : ∃ R, decI s = R := ⟨_, rfl⟩
 rw [hR] at HC ⊢
 have HN := Lib.hid h0
 clear h0 hb0 hzz B hR
 go_enter Tryz.func48, Tryz.ntmps48
 go_upto_region 1 with (fail)
 rw [hp] at HA
 generalize w.alloc _ = W0 at *
 have HP := Lib.hid hp
 clear hp
 go_wp2_with fail
 refine (HS.out _).mono ?_
 rintro e W1 ⟨rfl, h1⟩
 have HB1 := Lib.hid (HB.out _ h1)
 have HA1 := Lib.hid (at_next h1 HA.out)
 clear h1 HA
 obtain ⟨⟨k0, k1, k2, k3, k4, k5, k6⟩, g0, g1, g2, g3, g4, g5, g6⟩ := cells7 HA1.out
 by_cases z0 : z = 0
 ·have HR : Hid (R = (zeroI, 11)) := Lib.hid (by have := HC.out; rw [HB0.out, HZZ.out, if_pos z0] at this; exact this)
  subst z0
  go_wp2_with fail
  refine bodyPost_ret (v := .tuple #[.agg zeroI.cells.toArray, .int .i64 11]) (by simp [results, Tryz.results48, go_sem, zeroI, InsI.cells, *]) rfl ⟨by rw [HR.out], ?_⟩
  iterate 7
   refine Below.setCell ?_ (p := ⟨p, _, none⟩) HPW.out _
  exact HB1.out
 have e0 : (z == 0) = false := by rw [beq_eq_false_iff_ne]; exact z0
 have HZ0 := Lib.hid z0
 clear z0
 by_cases zl : (s.size : Int) < z
 ·have HR : Hid (R = (zeroI, 10)) := Lib.hid (by have := HC.out; rw [HB0.out, HZZ.out, if_neg HZ0.out, if_pos zl] at this; exact this)
  have e1 : decide ((s.size : Int) < z) = true := decide_eq_true zl
  clear zl
  go_wp2_with fail
  refine bodyPost_ret (v := .tuple #[.agg zeroI.cells.toArray, .int .i64 10]) (by simp [results, Tryz.results48, go_sem, zeroI, InsI.cells, *]) rfl ⟨by rw [HR.out], ?_⟩
  iterate 7
   refine Below.setCell ?_ (p := ⟨p, _, none⟩) HPW.out _
  exact HB1.out
 have e1 : decide ((s.size : Int) < z) = false := decide_eq_false zl
 have HF : Hid (∀ W, Calls Tryz.prog 79 #[.string s] W fun e w' => e = .returned (.agg (rI (rfmt (byteI s 0)) s).cells.toArray) ∧ Below W.heap.size W w') := Lib.hid fun W => fields_z s W (by have := HN.out; omega) (fun h => HZ0.out (by rw [← HZZ.out, ← HB0.out]; exact (rsize_zero _).2 h)) (by rw [HB0.out, HZZ.out]; omega)
 have HV : Hid (∀ W, Calls Tryz.prog 80 #[.agg (rI (rfmt (byteI s 0)) s).cells.toArray] W fun e w' => e = .returned (.bool (rvalidI (rI (rfmt (byteI s 0)) s))) ∧ Below W.heap.size W w') := Lib.hid fun W => rvalid_any _ _ _ _ _ _ _ W
 have HR : Hid (R = if rvalidI (rI (rfmt (byteI s 0)) s) = true then (rI (rfmt (byteI s 0)) s, 0) else (zeroI, 11)) := Lib.hid (by have := HC.out; rw [HB0.out, HZZ.out, if_neg HZ0.out, if_neg zl] at this; rw [HB0.out]; exact this)
 clear zl
 generalize rI (rfmt (byteI s 0)) s = I at *
 obtain ⟨op, d, si, imm, aux, bank, size⟩ := I
 simp only [InsI.cells] at HF HV
 go_wp2_with fail
 refine (HF.out _).mono ?_
 rintro e W2 ⟨rfl, h2⟩
 have HB2 := Lib.hid (below_next HB1.out h2)
 have HA2 := Lib.hid (at_next h2 HA1.out)
 clear h2 HA1 HB1 k0 k1 k2 k3 k4 k5 k6 g0 g1 g2 g3 g4 g5 g6
 go_upto_region 9 with (fail)
 have HQ3 : Hid ((W2.alloc (.cells #[.int .i64 op, .int .i64 d, .int .i64 si, .int .u16 imm, .int .u16 aux, .int .i64 bank, .int .i64 size] 68)).heap[W2.heap.size]? = some (.cells #[.int .i64 op, .int .i64 d, .int .i64 si, .int .u16 imm, .int .u16 aux, .int .i64 bank, .int .i64 size] 68 (0, 0))) := Lib.hid (alloc_at W2 _)
 have HA3 := Lib.hid (at_next (below1 W2 (.cells #[.int .i64 op, .int .i64 d, .int .i64 si, .int .u16 imm, .int .u16 aux, .int .i64 bank, .int .i64 size] 68)) HA2.out)
 have HB3 := Lib.hid (below_next HB2.out (below1 W2 (.cells #[.int .i64 op, .int .i64 d, .int .i64 si, .int .u16 imm, .int .u16 aux, .int .i64 bank, .int .i64 size] 68)))
 obtain ⟨q, hq⟩ : ∃ q, W2.heap.size = q := ⟨_, rfl⟩
 rw [hq] at HQ3 ⊢
 generalize W2.alloc _ = W3 at *
 clear hq HA2 HB2
 obtain ⟨⟨k0, k1, k2, k3, k4, k5, k6⟩, g0, g1, g2, g3, g4, g5, g6⟩ := cells7 HQ3.out
 go_wp2_with fail
 refine (HV.out _).mono ?_
 rintro e W4 ⟨rfl, h4⟩
 have HQ4 := Lib.hid (at_next h4 HQ3.out)
 have HA4 := Lib.hid (at_next h4 HA3.out)
 have HB4 := Lib.hid (below_next HB3.out h4)
 clear h4 HQ3 HA3 HB3 k0 k1 k2 k3 k4 k5 k6 g0 g1 g2 g3 g4 g5 g6
 obtain ⟨⟨k0, k1, k2, k3, k4, k5, k6⟩, g0, g1, g2, g3, g4, g5, g6⟩ := cells7 HQ4.out
 obtain ⟨⟨l0, l1, l2, l3, l4, l5, l6⟩, m0, m1, m2, m3, m4, m5, m6⟩ := cells7 HA4.out
 obtain ⟨rv, hrv⟩ : ∃ rv, rvalidI ⟨op, d, si, imm, aux, bank, size⟩ = rv := ⟨_, rfl⟩
 rw [hrv] at HR ⊢
 clear hrv HV HF
 cases rv
 ·have HR2 : Hid (R = (zeroI, 11)) := Lib.hid HR.out
  go_wp2_with fail
  refine bodyPost_ret (v := .tuple #[.agg zeroI.cells.toArray, .int .i64 11]) (by simp [results, Tryz.results48, go_sem, zeroI, InsI.cells, *]) rfl ⟨by rw [HR2.out], ?_⟩
  iterate 7
   refine Below.setCell ?_ (p := ⟨p, _, none⟩) HPW.out _
  exact HB4.out
 ·have HR2 : Hid (R = (⟨op, d, si, imm, aux, bank, size⟩, 0)) := Lib.hid HR.out
  go_wp2_with fail
  refine bodyPost_ret (v := .tuple #[.agg #[.int .i64 op, .int .i64 d, .int .i64 si, .int .u16 imm, .int .u16 aux, .int .i64 bank, .int .i64 size], .int .i64 0]) (by simp [results, Tryz.results48, go_sem, *]) rfl ⟨by rw [HR2.out]; rfl, ?_⟩
  iterate 7
   refine Below.setCell ?_ (p := ⟨p, _, none⟩) HPW.out _
  exact HB4.out
/-- A store into a box of another kind, made behind U. -/
theorem RM.oth {b0 : Nat} {U V W : World} {E : Env} {B g : Nat} {s : RSt} (h : RM b0 U E B g s V) {q j : Nat} {c : Array Value} {f : Nat × Nat} {v : Value} (hq : V.heap[q]? = some (.cells c 68 f)) (hU : U.heap.size ≤ q) (e : V.setCell ⟨q, j, none⟩ v = W) : RM b0 U E B g s W := by
 obtain ⟨⟨sv, ov, h⟩, hb⟩ := h
 obtain ⟨cur, r1, r2, r3⟩ := h.ram
 have nB : q ≠ B := fun e => by
  subst e
  have h9 := h.blk
  rw [hq] at h9
  simp at h9
 have ng : q ≠ g := fun e => by
  subst e
  rw [hq] at r1
  simp at r1
 refine ⟨⟨sv, ov, ⟨sc_oth nB h.blk e, ⟨cur, sc_oth ng r1 e, r2, r3⟩, ?_, ?_, h.low⟩⟩, ?_⟩
 ·rw [← e]; exact own_set' h.st hq (by decide)
 ·rw [← e]; exact own_set' h.out hq (by decide)
 ·refine ⟨by rw [← e]; simpa using hb.1, fun k hk hc => ?_, by rw [← e]; exact hb.2.2⟩
  rw [← e]
  exact (Below.heap_setCell _ _ _ _ (by simp only; omega)).trans (hb.2.1 k hk hc)
theorem RM.seven {b0 : Nat} {U V W : World} {E : Env} {B g : Nat} {s : RSt} (h : RM b0 U E B g s V) {q : Nat} {c : Array Value} {v0 v1 v2 v3 v4 v5 v6 : Value} (hq : V.heap[q]? = some (.cells c 68 (0, 0))) (hU : U.heap.size ≤ q)
  (e : (((((((V.setCell ⟨q, 0, none⟩ v0).setCell ⟨q, 1, none⟩ v1).setCell ⟨q, 2, none⟩ v2).setCell ⟨q, 3, none⟩ v3).setCell ⟨q, 4, none⟩ v4).setCell ⟨q, 5, none⟩ v5).setCell ⟨q, 6, none⟩ v6) = W) : RM b0 U E B g s W := by
 have k0 := sc_blk (k := 0) (v := v0) hq rfl
 have k1 := sc_blk (k := 1) (v := v1) k0 rfl
 have k2 := sc_blk (k := 2) (v := v2) k1 rfl
 have k3 := sc_blk (k := 3) (v := v3) k2 rfl
 have k4 := sc_blk (k := 4) (v := v4) k3 rfl
 have k5 := sc_blk (k := 5) (v := v5) k4 rfl
 exact ((((((h.oth hq hU rfl).oth k0 hU rfl).oth k1 hU rfl).oth k2 hU rfl).oth k3 hU rfl).oth k4 hU rfl).oth k5 hU e
theorem bytes_one (W9 V : World) (x : UInt8) (h : Below (W9.alloc (.cells #[.int .u8 (x.toNat : Int)] 5)).heap.size (W9.alloc (.cells #[.int .u8 (x.toNat : Int)] 5)) V) : (convert 42 9 (.slice (some ⟨W9.heap.size, 0, none⟩) 1 1)).run Tryz.prog V = .ok (.string ⟨#[x]⟩) V := by
 have hr := run_convert_bytes_back (P := Tryz.prog) V 42 9 5 ⟨W9.heap.size, 0, none⟩ 1 [x] Tryz.underlying42 Tryz.underlying5 Tryz.underlying9 (by
  intro j hj
  have : j = 0 := by simpa using hj
  subst this
  have h1 := (h.block W9.heap.size (by simp)).trans (alloc_at W9 _)
  rw [show (⟨W9.heap.size, 0, none⟩ : Addr).add 0 = ⟨W9.heap.size, 0, none⟩ from by unfold Addr.add; split <;> simp_all]
  rw [Lib.cell_of_heap h1 0]
  rfl)
 exact hr
/-- What fetch leaves. -/
def FetchZ (b0 : Nat) (U : World) (E : Env) (B g : Nat) (s : RSt) (e : Ending) (w' : World) : Prop := ∃ i s', e = .returned (.agg i.cells.toArray) ∧ RM b0 U E B g s' w' ∧ (match fetchM E s.m with | .ok i' => i = i' ∧ s' = s | .error t => s' = ⟨s.m, t.1, t.2⟩)
theorem fetchZ_err {b0 : Nat} {U w' : World} {E : Env} {B g : Nat} {s : RSt} {v : Value} {a b : Int} {i : InsI} (h : fetchM E s.m = .error (a, b)) (hk : s.k = 0) (hv : v = .agg i.cells.toArray) (hr : RM b0 U E B g (rfail s a b) w') : FetchZ b0 U E B g s (.returned v) w' :=
 ⟨i, rfail s a b, by rw [hv], hr, by rw [h]; exact if_pos hk⟩
theorem fetchZ_ok {b0 : Nat} {U w' : World} {E : Env} {B g : Nat} {s : RSt} {v : Value} {i : InsI} (h : fetchM E s.m = .ok i) (hv : v = .agg i.cells.toArray) (hr : RM b0 U E B g s w') : FetchZ b0 U E B g s (.returned v) w' :=
 ⟨i, s, by rw [hv], hr, by rw [h]; exact ⟨rfl, rfl⟩⟩
theorem fetchZ_app (l : List Int) (c : Int) (h : l ≠ []) : fetchZ (l ++ [c]) = fetchZ l := by
 cases l with
 | nil => exact absurd rfl h
 | cons x l => rfl
theorem fetchL_next {E : Env} {m : Mach} {l : List Int} {c : Int} (h : fetchL E m l.length = .ok l) (hb : fetchB E m l.length = .ok c) : fetchL E m (l ++ [c]).length = .ok (l ++ [c]) := by
 rw [List.length_append, List.length_singleton, fetchL, h]
 dsimp only
 rw [hb]
theorem fetchL_stop {E : Env} {m : Mach} {l : List Int} {t : Int × Int} (h : fetchL E m l.length = .ok l) (hb : fetchB E m l.length = .error t) : fetchL E m (l.length + 1) = .error t := by
 rw [fetchL, h]
 dsimp only
 rw [hb]
set_option maxRecDepth 20000 in
set_option maxHeartbeats 8000000 in
theorem fetch_z {b0 : Nat} {U V : World} {E : Env} {B g : Nat} {s : RSt} (h : RM b0 U E B g s V) (hE : StrsLow b0 U E.pb E.banks) (hl : E.banks.length ≤ maxLen) (ok : s.m.Ok) (k0 : s.k = 0) : Calls Tryz.prog 26 #[.pointer (some ⟨B, 0, none⟩)] V (FetchZ b0 U E B g s) := by
 have H := Lib.hid h
 have HE := Lib.hid hE
 have HBL := Lib.hid hl
 have OK := Lib.hid ok
 have K0 := Lib.hid k0
 obtain ⟨pc, hpc⟩ : ∃ pc, s.m.pc = pc := ⟨_, rfl⟩
 have hb := ok.pc
 rw [hpc] at hb
 unfold OkU16 at hb
 have HPC := Lib.hid hpc
 have HPB := Lib.hid hb
 have HU : Hid (U.heap.size ≤ V.heap.size) := Lib.hid h.2.1
 have HRW : Hid (∀ o, RM b0 U E B g s (V.alloc o)) := Lib.hid fun o => h.next (below1 V o)
 have HA : Hid ((V.alloc (.cells #[.int .i64 0, .int .i64 0, .int .i64 0, .int .u16 0, .int .u16 0, .int .i64 0, .int .i64 0] 68)).heap[V.heap.size]? = some (.cells #[.int .i64 0, .int .i64 0, .int .i64 0, .int .u16 0, .int .u16 0, .int .i64 0, .int .i64 0] 68 (0, 0))) := Lib.hid (alloc_at V _)
 clear h hE hl ok k0 hpc hb
 go_enter Tryz.func26, Tryz.ntmps26
 go_upto_region 1 with (fail)
 have HR := Lib.hid (HRW.out (.cells #[.int .i64 0, .int .i64 0, .int .i64 0, .int .u16 0, .int .u16 0, .int .i64 0, .int .i64 0] 68))
 obtain ⟨p, hp⟩ : ∃ p, V.heap.size = p := ⟨_, rfl⟩
 rw [hp] at HA HU ⊢
 generalize V.alloc _ = W0 at *
 clear hp HRW
 have c15 := HR.out.cell 15 (.int .u16 pc) (fun _ _ => by rw [← HPC.out]; rfl)
 by_cases h6 : pc = 65535
 ·have e0 : (pc == 65535) = true := by rw [beq_iff_eq]; exact h6
  have HM : Hid (fetchM E s.m = .error (6, 0)) := Lib.hid (by unfold fetchM; rw [if_pos (HPC.out.trans h6)])
  clear h6
  go_wp2_with fail
  refine (fail_z HR.out.over 6 0).mono ?_
  rintro e W1 ⟨rfl, hw⟩
  have HW := Lib.hid (HR.out.from hw)
  have HA1 := Lib.hid ((hw.2.2.1 p (at_lt HA.out) (.inr (by intro c t f e; rw [HA.out] at e; injection e with e; injection e with _ e; subst e; decide))).trans HA.out)
  clear hw
  obtain ⟨⟨l0, l1, l2, l3, l4, l5, l6⟩, m0, m1, m2, m3, m4, m5, m6⟩ := cells7 HA1.out
  go_wp2_with fail
  exact bodyPost_ret (v := .agg zeroI.cells.toArray) (by simp [results, Tryz.results26, go_sem, zeroI, InsI.cells, *]) rfl (fetchZ_err HM.out K0.out rfl (HW.out.seven HA1.out HU.out rfl))
 have e0 : (pc == 65535) = false := by rw [beq_eq_false_iff_ne]; exact h6
 have H6 : Hid (s.m.pc ≠ 65535) := Lib.hid (by rw [HPC.out]; exact h6)
 clear h6
 go_wp2_with fail
 clear e0 c15
 go_loopw [3, 4, 5, 6, 7, 8] (fun s_ n_ k_ a_ c_ o_ wr => ∃ l : List Int, s_ = .string ⟨(bytesI l).toArray⟩ ∧ n_ = .int .i64 (fetchZ l) ∧ k_ = .int .i64 (l.length : Int) ∧ fetchL E s.m l.length = .ok l ∧ (l.length : Int) ≤ max 1 (fetchZ l) ∧ RM b0 U E B g s wr ∧ wr.heap[p]? = some (.cells #[.int .i64 0, .int .i64 0, .int .i64 0, .int .u16 0, .int .u16 0, .int .i64 0, .int .i64 0] 68 (0, 0))) (fun _ _ k_ _ _ _ _ => 20 - (intOf k_).toNat)
 case atStart => exact ⟨[], rfl, rfl, rfl, rfl, by decide, HR.out, HA.out⟩
 case round =>
  obtain ⟨l, rfl, rfl, rfl, hfl, hmx, hrm, hha⟩ := hrel
  have h9 : (l.length : Int) ≤ 9 := by
   have hz : fetchZ l ≤ 9 := by
    unfold fetchZ
    cases l with
    | nil => decide
    | cons c l => exact (sizeI_bd c).2
   omega
  have H9 := Lib.hid h9
  have HFL := Lib.hid hfl
  have HMX := Lib.hid hmx
  have HRM := Lib.hid hrm
  have HHA := Lib.hid hha
  have c15 := HRM.out.cell 15 (.int .u16 pc) (fun _ _ => by rw [← HPC.out]; rfl)
  obtain ⟨k, hk⟩ : ∃ k, l.length = k := ⟨_, rfl⟩
  obtain ⟨n, hn⟩ : ∃ n, fetchZ l = n := ⟨_, rfl⟩
  have HN := Lib.hid hn
  have HK := Lib.hid hk
  rw [hk] at h9
  rw [hk, hn]
  clear hfl hmx hrm hha hk hn
  by_cases hlt : (k : Int) < n
  ·have t0 : decide ((k : Int) < n) = true := decide_eq_true hlt
   have HLT := Lib.hid hlt
   have hpb := HPB.out
   obtain ⟨a, ha⟩ : ∃ a, fetchA s.m k = a := ⟨_, rfl⟩
   have haA : (pc + (k : Int)) % 65536 = a := by rw [← ha, ← HPC.out]; rfl
   have HAE := Lib.hid ha
   have hao : OkU16 a := by rw [← haA]; exact ⟨by omega, by omega⟩
   have x1 : IntKind.i64.wrap pc = pc := IntWalk.i64_in _ (by omega)
   obtain ⟨A, hA⟩ : ∃ A, pc + (k : Int) = A := ⟨_, rfl⟩
   rw [hA] at haA
   have x2 : IntKind.i64.wrap (pc + (k : Int)) = A := by rw [IntWalk.i64_in _ (by omega)]; exact hA
   have x3 : IntKind.u16.wrap A = a := (IntKind.wrap_u16 _).trans haA
   have q1 : A.tdiv 4096 = A / 4096 := Int.tdiv_eq_ediv_of_nonneg (by omega)
   have q2 : pc.tdiv 4096 = pc / 4096 := Int.tdiv_eq_ediv_of_nonneg (by omega)
   have q3 : IntKind.i64.wrap (A / 4096) = A / 4096 := IntWalk.i64_in _ (by omega)
   have q4 : IntKind.i64.wrap (pc / 4096) = pc / 4096 := IntWalk.i64_in _ (by omega)
   have hq : (A / 4096 = pc / 4096) ↔ (a / 4096 = pc / 4096) := by omega
   obtain ⟨r, hr⟩ : ∃ r, rcode E s.m a = r := ⟨_, rfl⟩
   have hcode : codeM E s.m a = r := by rw [← rcode_eq E s.m a hao]; exact hr
   have HC : Hid (∀ W, RM b0 U E B g s W → Calls Tryz.prog 46 #[.pointer (some ⟨B, 0, none⟩), .int .u16 a] W fun e w' => e = .returned (.tuple #[.int .u8 (r.getD 0), .bool r.isSome]) ∧ W = w') := Lib.hid fun W hW => by
    have h9 := codeAt_z hW HE.out HBL.out OK.out.bank a hao
    rw [hr] at h9
    exact h9
   have HCM := Lib.hid hcode
   obtain ⟨qa, hqa⟩ : ∃ qa, A / 4096 = qa := ⟨_, rfl⟩
   obtain ⟨qb, hqb⟩ : ∃ qb, pc / 4096 = qb := ⟨_, rfl⟩
   rw [hqa] at q1 q3 hq
   rw [hqb] at q2 q4 hq
   have HQ2 : Hid (qa = qb ↔ a / 4096 = s.m.pc / 4096) := Lib.hid (by rw [HPC.out, hqb]; exact hq)
   have HAA : Hid (OkU16 a) := Lib.hid hao
   clear hlt hpb ha haA hao hq hr hcode hA hqa hqb
   cases r with
   | none =>
    have HB : Hid (fetchB E s.m l.length = .error (2, a)) := Lib.hid (by unfold fetchB; rw [HK.out, HAE.out, HCM.out]; simp)
    have HM : Hid (fetchM E s.m = .error (2, a)) := Lib.hid (fetchM_err H6.out HFL.out (by rw [HK.out, HN.out]; exact HLT.out) (fetchL_stop HFL.out HB.out))
    go_wp2_with fail
    refine (HC.out _ HRM.out).mono ?_
    rintro e w ⟨rfl, rfl⟩
    go_wp2_with fail
    refine (fail_z HRM.out.over 2 a).mono ?_
    rintro e W1 ⟨rfl, hw⟩
    have HW := Lib.hid (HRM.out.from hw)
    have HA1 := Lib.hid ((hw.2.2.1 p (at_lt HHA.out) (.inr (by intro c t f e; rw [HHA.out] at e; injection e with e; injection e with _ e; subst e; decide))).trans HHA.out)
    clear hw
    obtain ⟨⟨l0, l1, l2, l3, l4, l5, l6⟩, m0, m1, m2, m3, m4, m5, m6⟩ := cells7 HA1.out
    go_wp2_with fail
    exact bodyPost_ret (v := .agg zeroI.cells.toArray) (by simp [results, Tryz.results26, go_sem, zeroI, InsI.cells, *]) rfl (fetchZ_err HM.out K0.out rfl (HW.out.seven HA1.out HU.out rfl))
   | some c =>
    have hcb := codeM_bd HCM.out
    have HCB := Lib.hid hcb
    go_wp2_with fail
    refine (HC.out _ HRM.out).mono ?_
    rintro e w ⟨rfl, rfl⟩
    by_cases hq : qa = qb
    rotate_left
    ·have t1 : (qa != qb) = true := by rw [bne_iff_ne]; exact hq
     have HB : Hid (fetchB E s.m l.length = .error (2, a)) := Lib.hid (by unfold fetchB; rw [HK.out, HAE.out, if_neg (fun h => hq (HQ2.out.2 h))])
     have HM : Hid (fetchM E s.m = .error (2, a)) := Lib.hid (fetchM_err H6.out HFL.out (by rw [HK.out, HN.out]; exact HLT.out) (fetchL_stop HFL.out HB.out))
     clear hq hcb
     go_wp2_with fail
     refine (fail_z HRM.out.over 2 a).mono ?_
     rintro e W1 ⟨rfl, hw⟩
     have HW := Lib.hid (HRM.out.from hw)
     have HA1 := Lib.hid ((hw.2.2.1 p (at_lt HHA.out) (.inr (by intro c t f e; rw [HHA.out] at e; injection e with e; injection e with _ e; subst e; decide))).trans HHA.out)
     clear hw
     obtain ⟨⟨l0, l1, l2, l3, l4, l5, l6⟩, m0, m1, m2, m3, m4, m5, m6⟩ := cells7 HA1.out
     go_wp2_with fail
     exact bodyPost_ret (v := .agg zeroI.cells.toArray) (by simp [results, Tryz.results26, go_sem, zeroI, InsI.cells, *]) rfl (fetchZ_err HM.out K0.out rfl (HW.out.seven HA1.out HU.out rfl))
    ·have t1 : (qa != qb) = false := by rw [hq]; simp
     have HB : Hid (fetchB E s.m l.length = .ok c) := Lib.hid (by unfold fetchB; rw [HK.out, HAE.out, HCM.out, if_pos (HQ2.out.1 hq)])
     have HNX := Lib.hid (fetchL_next HFL.out HB.out)
     obtain ⟨x, hx⟩ : ∃ x : UInt8, (x.toNat : Int) = c := ⟨UInt8.ofNat c.toNat, byte_one c hcb.1 hcb.2⟩
     have HXX := Lib.hid hx
     subst hx
     obtain ⟨S, hS⟩ : ∃ S : ByteArray, (⟨(bytesI l).toArray⟩ : ByteArray) = S := ⟨_, rfl⟩
     have hSz : S.size ≤ 100 := by
      rw [← hS]
      show (bytesI l).toArray.size ≤ 100
      unfold bytesI
      rw [List.size_toArray, List.length_map, HK.out]
      omega
     have HS : Hid (S ++ ⟨#[x]⟩ = ⟨(bytesI (l ++ [(x.toNat : Int)])).toArray⟩) := Lib.hid (by
      rw [← hS]
      apply ByteArray.ext
      rw [ByteArray.data_append]
      unfold bytesI
      simp)
     have hcv := bytes_one wr (wr.alloc (.cells #[.int .u8 (x.toNat : Int)] 5)) x (Below.refl _ _)
     have ap1 : ¬ (9223372036854775807 < S.size + 1) := by omega
     have ap2 : ¬ (9223372036854775807 < S.size + (⟨#[x]⟩ : ByteArray).size) := by rw [show (⟨#[x]⟩ : ByteArray).size = 1 from rfl]; exact ap1
     have HH2 := Lib.hid (at_next (below1 wr (Obj.cells #[.int .u8 (x.toNat : Int)] 5)) HHA.out)
     have HR2 := Lib.hid (HRM.out.next (below1 wr (Obj.cells #[.int .u8 (x.toNat : Int)] 5)))
     rw [hS]
     clear hq hcb hS
     go_upto_region 15 with (fail)
     generalize wr.alloc _ = W2 at *
     clear hcv ap1 ap2 hSz c15 t0 t1 x1 x2 x3 q1 q2 q3 q4
     have xk : IntKind.i64.wrap ((k : Int) + 1) = (((l ++ [(x.toNat : Int)]).length : Nat) : Int) := by
      rw [IntWalk.i64_in _ (by omega), List.length_append, List.length_singleton, HK.out]
      omega
     by_cases hk0 : k = 0
     ·have hl : l = [] := List.length_eq_zero_iff.1 (HK.out.trans hk0)
      have HZ : Hid (fetchZ (l ++ [(x.toNat : Int)]) = rsize (x.toNat : Int)) := Lib.hid (by rw [hl]; exact (fmt_eq _ HCB.out.1 HCB.out.2).2)
      have HMX2 : Hid (((l ++ [(x.toNat : Int)]).length : Int) ≤ max 1 (fetchZ (l ++ [(x.toNat : Int)]))) := Lib.hid (by rw [List.length_append, HK.out, hk0]; simp; omega)
      have t0 : ((k : Int) == 0) = true := by rw [hk0]; rfl
      have t1 : (k == 0) = true := by rw [hk0]; rfl
      clear hk0 hl
      go_wp2_with fail
      refine (rsize_any (x.toNat : Int) _ HCB.out.1 HCB.out.2).mono ?_
      rintro e W3 ⟨rfl, h3⟩
      have HH3 := Lib.hid (at_next h3 HH2.out)
      have HR3 := Lib.hid (HR2.out.next h3)
      clear h3
      go_wp2_with fail
      go_roundw
      case rel => exact ⟨l ++ [(x.toNat : Int)], by rw [HS.out], by rw [HZ.out], by simp, HNX.out, HMX2.out, HR3.out, HH3.out⟩
      case measure => have := HK.out; simp only [intOf]; omega
     ·have hl : l ≠ [] := fun h => hk0 (by rw [← HK.out, h]; rfl)
      have HZ : Hid (fetchZ (l ++ [(x.toNat : Int)]) = n) := Lib.hid (by rw [fetchZ_app _ _ hl]; exact HN.out)
      have HMX2 : Hid (((l ++ [(x.toNat : Int)]).length : Int) ≤ max 1 (fetchZ (l ++ [(x.toNat : Int)]))) := Lib.hid (by rw [HZ.out, List.length_append, HK.out]; have := HLT.out; simp; omega)
      have t0 : ((k : Int) == 0) = false := by rw [beq_eq_false_iff_ne]; omega
      have t1 : (k == 0) = false := by rw [beq_eq_false_iff_ne]; exact hk0
      clear hk0 hl
      go_wp2_with fail
      go_roundw
      case rel => exact ⟨l ++ [(x.toNat : Int)], by rw [HS.out], by rw [HZ.out], by simp, HNX.out, HMX2.out, HR2.out, HH2.out⟩
      case measure => have := HK.out; simp only [intOf]; omega
  ·have t0 : decide ((k : Int) < n) = false := decide_eq_false hlt
   have HM := Lib.hid (fetchM_all H6.out HFL.out (by rw [HK.out, HN.out]; exact hlt) HMX.out)
   have hn0 : n = 0 → (decI ⟨(bytesI l).toArray⟩).2 ≠ 0 := fun h => by
    have hz := HN.out.trans h
    cases l with
    | nil => exact absurd hz (by decide)
    | cons c l2 =>
     have hb := fetchL_bd _ _ HFL.out c (by simp)
     have hby : byteI ⟨(bytesI (c :: l2)).toArray⟩ 0 = c := byteI_mk _ 0 c rfl hb.1 hb.2
     rw [decI_cases _ (by unfold bytesI; simp [ByteArray.size]), hby, if_pos (by rw [← (fmt_eq c hb.1 hb.2).2]; exact hz)]
     decide
   have HD : Hid (∀ W, Calls Tryz.prog 48 #[.string ⟨(bytesI l).toArray⟩] W fun e w' => e = .returned (.tuple #[.agg (decI ⟨(bytesI l).toArray⟩).1.cells.toArray, .int .i64 (decI ⟨(bytesI l).toArray⟩).2]) ∧ Below W.heap.size W w') := Lib.hid fun W => decode_z _ W
   generalize decI ⟨(bytesI l).toArray⟩ = R at hn0 HM HD
   obtain ⟨⟨op, d, si, imm, aux, bank, size⟩, er⟩ := R
   simp only [InsI.cells] at HD
   have HN0 := Lib.hid hn0
   clear hlt c15 hn0
   go_wp2_with fail
   refine (HD.out _).mono ?_
   rintro e W1 ⟨rfl, h1⟩
   have HH1 := Lib.hid (at_next h1 HHA.out)
   have HR1 := Lib.hid (HRM.out.next h1)
   clear h1
   go_upto_region 18 with (fail)
   have HQ3 : Hid ((W1.alloc (.cells #[.int .i64 op, .int .i64 d, .int .i64 si, .int .u16 imm, .int .u16 aux, .int .i64 bank, .int .i64 size] 68)).heap[W1.heap.size]? = some (.cells #[.int .i64 op, .int .i64 d, .int .i64 si, .int .u16 imm, .int .u16 aux, .int .i64 bank, .int .i64 size] 68 (0, 0))) := Lib.hid (alloc_at W1 _)
   have HH3 := Lib.hid (at_next (below1 W1 (.cells #[.int .i64 op, .int .i64 d, .int .i64 si, .int .u16 imm, .int .u16 aux, .int .i64 bank, .int .i64 size] 68)) HH1.out)
   have HR3 := Lib.hid (HR1.out.next (below1 W1 (.cells #[.int .i64 op, .int .i64 d, .int .i64 si, .int .u16 imm, .int .u16 aux, .int .i64 bank, .int .i64 size] 68)))
   obtain ⟨q, hq⟩ : ∃ q, W1.heap.size = q := ⟨_, rfl⟩
   rw [hq] at HQ3 ⊢
   generalize W1.alloc _ = W3 at *
   clear hq HH1 HR1 t0
   by_cases he : er = 0
   ·have HM2 : Hid (fetchM E s.m = .ok ⟨op, d, si, imm, aux, bank, size⟩) := Lib.hid (HM.out.trans (if_pos he))
    have t1 : (n == 0) = false := by rw [beq_eq_false_iff_ne]; exact fun h => HN0.out h he
    subst he
    obtain ⟨⟨k0, k1, k2, k3, k4, k5, k6⟩, g0, g1, g2, g3, g4, g5, g6⟩ := cells7 HQ3.out
    obtain ⟨⟨l0, l1, l2, l3, l4, l5, l6⟩, m0, m1, m2, m3, m4, m5, m6⟩ := cells7 HH3.out
    go_wp2_with fail
    exact bodyPost_ret (v := .agg #[.int .i64 op, .int .i64 d, .int .i64 si, .int .u16 imm, .int .u16 aux, .int .i64 bank, .int .i64 size]) (by simp [results, Tryz.results26, go_sem, *]) rfl (fetchZ_ok HM2.out rfl (HR3.out.seven HH3.out HU.out rfl))
   ·have HM2 : Hid (fetchM E s.m = .error (3, 0)) := Lib.hid (HM.out.trans (if_neg he))
    have HY : Hid (∀ W, RM b0 W3 E B g (rfail s 3 0) W → RM b0 U E B g (rfail s 3 0) W ∧ W.heap[q]? = some (.cells #[.int .i64 op, .int .i64 d, .int .i64 si, .int .u16 imm, .int .u16 aux, .int .i64 bank, .int .i64 size] 68 (0, 0)) ∧ W.heap[p]? = some (.cells #[.int .i64 0, .int .i64 0, .int .i64 0, .int .u16 0, .int .u16 0, .int .i64 0, .int .i64 0] 68 (0, 0))) := Lib.hid fun W hW => by
     refine ⟨HR3.out.from hW, (hW.2.2.1 q (at_lt HQ3.out) (.inr ?_)).trans HQ3.out, (hW.2.2.1 p (at_lt HH3.out) (.inr ?_)).trans HH3.out⟩
     ·intro c t f e; rw [HQ3.out] at e; injection e with e; injection e with _ e; subst e; decide
     ·intro c t f e; rw [HH3.out] at e; injection e with e; injection e with _ e; subst e; decide
    have t2 : (er != 0) = true := by rw [bne_iff_ne]; exact he
    obtain ⟨tz, htz⟩ : ∃ tz, (n == 0) = tz := ⟨_, rfl⟩
    clear he
    cases tz
    all_goals
     go_wp2_with fail
     refine (fail_z HR3.out.over 3 0).mono ?_
     rintro e W4 ⟨rfl, hw⟩
     obtain ⟨hr4, hq4, hp4⟩ := HY.out _ hw
     have HR4 := Lib.hid hr4
     have HQ4 := Lib.hid hq4
     have HH4 := Lib.hid hp4
     clear hw hr4 hq4 hp4
     obtain ⟨⟨k0, k1, k2, k3, k4, k5, k6⟩, g0, g1, g2, g3, g4, g5, g6⟩ := cells7 HQ4.out
     obtain ⟨⟨l0, l1, l2, l3, l4, l5, l6⟩, m0, m1, m2, m3, m4, m5, m6⟩ := cells7 HH4.out
     go_wp2_with fail
     exact bodyPost_ret (v := .agg #[.int .i64 op, .int .i64 d, .int .i64 si, .int .u16 imm, .int .u16 aux, .int .i64 bank, .int .i64 size]) (by simp [results, Tryz.results26, go_sem, *]) rfl (fetchZ_err (i := ⟨op, d, si, imm, aux, bank, size⟩) HM2.out K0.out rfl (HR4.out.seven HH4.out HU.out rfl))
end Go.Proofs.YtieaicdihingkaaGreat
