/- The law's arith: what an arithmetic instruction computes. -/
import Derived.Test.YtieaicdihingkaaHK
namespace Go.Proofs.Ytieaicdihingkaa
set_option linter.unusedVariables false
set_option linter.unusedSimpArgs false
open Go.RowKit
/-- The result, the flags, and whether it divides by 0. -/
def arR (op a b f : Int) : Int × Int × Bool :=
  if op = 32 then (b, f, false)
  else if op = 33 ∨ op = 34 then (addR a b (decide (op = 34) && fc f), addF a b (decide (op = 34) && fc f), false)
  else if op = 35 ∨ op = 36 then (subR a b (decide (op = 35) || fc f), subF a b (decide (op = 35) || fc f), false)
  else if op = 40 then (a, subF a b true, false)
  else if op = 41 then (a, withI f (bits .and .u16 a b), false)
  else if op = 43 ∧ b = 0 then (a, f, true)
  else ((resI op a b).getD 0, withI f ((resI op a b).getD 0), false)
def ArPost (op a b f : Int) (w : World) (e : Ending) (w' : World) : Prop := e = .returned (.tuple #[.int .u16 (arR op a b f).1, .int .u16 (arR op a b f).2.1, .bool (arR op a b f).2.2]) ∧ w = w'
theorem ar_ret {op a b f : Int} {w : World} {x y : Int} {d : Bool} (h : arR op a b f = (x, y, d)) : ArPost op a b f w (.returned (.tuple #[.int .u16 x, .int .u16 y, .bool d])) w := by
  unfold ArPost
  rw [h]
  exact ⟨rfl, rfl⟩
set_option maxRecDepth 20000 in
set_option maxHeartbeats 8000000 in
theorem arith_law (op a b f : Int) (w : World) (o0 : 32 ≤ op) (o1 : op ≤ 46) (a0 : 0 ≤ a) (a1 : a < 65536) (b0 : 0 ≤ b) (b1 : b < 65536) (f0 : 0 ≤ f) (f1 : f < 65536) : Calls Try.prog 16 #[.int .i64 op, .int .u16 a, .int .u16 b, .int .u16 f] w (ArPost op a b f w) := by
  have hc := bit_c f f0 f1
  have hm : IntKind.u16.wrap (a * b) = (a * b) % 65536 := by rw [IntKind.wrap_u16]
  have HAND := Lib.hid (bitsU16_ok .and (.inl rfl) a b a0 a1 b0 b1)
  have HOR := Lib.hid (bitsU16_ok .or (.inr (.inl rfl)) a b a0 a1 b0 b1)
  have HXOR := Lib.hid (bitsU16_ok .xor (.inr (.inr rfl)) a b a0 a1 b0 b1)
  have HW := Lib.hid fun (r : Int) (W : World) (h : OkU16 r) => rwith_any f r W f0 f1 h.1 h.2
  have HADD := Lib.hid fun (c : Bool) (W : World) => radd_any a b c W a0 a1 b0 b1
  have HSUB := Lib.hid fun (c : Bool) (W : World) => rsub_any a b c W a0 a1 b0 b1
  have HSH := Lib.hid fun (k : Int) (W : World) (k0 : 0 ≤ k) (k1 : k ≤ 2) => rshift_any k a b W (by omega) (by omega) a0 a1 b0 b1
  have HSK := Lib.hid fun (k : Int) => shN_ok k a (b % 16).toNat a0 a1
  have hop : op = 32 ∨ op = 33 ∨ op = 34 ∨ op = 35 ∨ op = 36 ∨ op = 37 ∨ op = 38 ∨ op = 39 ∨ op = 40 ∨ op = 41 ∨ op = 42 ∨ op = 43 ∨ op = 44 ∨ op = 45 ∨ op = 46 := by omega
  have HMU : Hid (OkU16 ((a * b) % 65536)) := Lib.hid ⟨by omega, by omega⟩
  have HDV : Hid (b ≠ 0 → OkU16 (a / b) ∧ a.tdiv b = a / b) := Lib.hid fun h => ⟨⟨Int.ediv_nonneg a0 b0, Int.lt_of_le_of_lt (Int.ediv_le_self _ a0) a1⟩, Int.tdiv_eq_ediv_of_nonneg a0⟩
  have HB := Lib.hid (And.intro b0 b1)
  have HF4 : Hid (0 ≤ f) := Lib.hid f0
  clear o0 o1 a0 a1 b0 b1 f0 f1
  rcases hop with rfl | rfl | rfl | rfl | rfl | rfl | rfl | rfl | rfl | rfl | rfl | rfl | rfl | rfl | rfl
  · go_enter Try.func16, Try.ntmps16
    go_wp2_with fail
    exact bodyPost_ret (v := .tuple #[.int .u16 b, .int .u16 f, .bool false]) (by simp [results, Try.results16, go_sem]) rfl (ar_ret rfl)
  · go_enter Try.func16, Try.ntmps16
    go_wp2_with fail
    refine (HADD.out _ _).mono ?_
    rintro e w1 ⟨rfl, rfl⟩
    go_wp2_with fail
    exact bodyPost_ret (v := .tuple #[.int .u16 (addR a b false), .int .u16 (addF a b false), .bool false]) (by simp [results, Try.results16, go_sem]) rfl (ar_ret rfl)
  · go_enter Try.func16, Try.ntmps16
    go_wp2_with fail
    refine (HADD.out _ _).mono ?_
    rintro e w1 ⟨rfl, rfl⟩
    go_wp2_with fail
    exact bodyPost_ret (v := .tuple #[.int .u16 (addR a b (fc f)), .int .u16 (addF a b (fc f)), .bool false]) (by simp [results, Try.results16, go_sem]) rfl (ar_ret (by simp [arR]))
  · go_enter Try.func16, Try.ntmps16
    go_wp2_with fail
    refine (HSUB.out _ _).mono ?_
    rintro e w1 ⟨rfl, rfl⟩
    go_wp2_with fail
    exact bodyPost_ret (v := .tuple #[.int .u16 (subR a b true), .int .u16 (subF a b true), .bool false]) (by simp [results, Try.results16, go_sem]) rfl (ar_ret (by simp [arR]))
  · go_enter Try.func16, Try.ntmps16
    go_wp2_with fail
    refine (HSUB.out _ _).mono ?_
    rintro e w1 ⟨rfl, rfl⟩
    go_wp2_with fail
    exact bodyPost_ret (v := .tuple #[.int .u16 (subR a b (fc f)), .int .u16 (subF a b (fc f)), .bool false]) (by simp [results, Try.results16, go_sem]) rfl (ar_ret (by simp [arR]))
  · go_enter Try.func16, Try.ntmps16
    go_wp2_with fail
    refine (HW.out _ _ HAND.out).mono ?_
    rintro e w1 ⟨rfl, rfl⟩
    go_wp2_with fail
    exact bodyPost_ret (v := .tuple #[.int .u16 (bits .and .u16 a b), .int .u16 (withI f (bits .and .u16 a b)), .bool false]) (by simp [results, Try.results16, go_sem]) rfl (ar_ret (by simp [arR, resI]))
  · go_enter Try.func16, Try.ntmps16
    go_wp2_with fail
    refine (HW.out _ _ HOR.out).mono ?_
    rintro e w1 ⟨rfl, rfl⟩
    go_wp2_with fail
    exact bodyPost_ret (v := .tuple #[.int .u16 (bits .or .u16 a b), .int .u16 (withI f (bits .or .u16 a b)), .bool false]) (by simp [results, Try.results16, go_sem]) rfl (ar_ret (by simp [arR, resI]))
  · go_enter Try.func16, Try.ntmps16
    go_wp2_with fail
    refine (HW.out _ _ HXOR.out).mono ?_
    rintro e w1 ⟨rfl, rfl⟩
    go_wp2_with fail
    exact bodyPost_ret (v := .tuple #[.int .u16 (bits .xor .u16 a b), .int .u16 (withI f (bits .xor .u16 a b)), .bool false]) (by simp [results, Try.results16, go_sem]) rfl (ar_ret (by simp [arR, resI]))
  · go_enter Try.func16, Try.ntmps16
    go_wp2_with fail
    refine (HSUB.out true _).mono ?_
    rintro e w1 ⟨rfl, rfl⟩
    go_wp2_with fail
    exact bodyPost_ret (v := .tuple #[.int .u16 a, .int .u16 (subF a b true), .bool false]) (by simp [results, Try.results16, go_sem]) rfl (ar_ret (by simp [arR]))
  · go_enter Try.func16, Try.ntmps16
    go_wp2_with fail
    refine (HW.out _ _ HAND.out).mono ?_
    rintro e w1 ⟨rfl, rfl⟩
    go_wp2_with fail
    exact bodyPost_ret (v := .tuple #[.int .u16 a, .int .u16 (withI f (bits .and .u16 a b)), .bool false]) (by simp [results, Try.results16, go_sem]) rfl (ar_ret (by simp [arR]))
  · go_enter Try.func16, Try.ntmps16
    go_wp2_with fail
    refine (HW.out _ _ HMU.out).mono ?_
    rintro e w1 ⟨rfl, rfl⟩
    go_wp2_with fail
    exact bodyPost_ret (v := .tuple #[.int .u16 ((a * b) % 65536), .int .u16 (withI f ((a * b) % 65536)), .bool false]) (by simp [results, Try.results16, go_sem]) rfl (ar_ret (by simp [arR, resI]))
  · by_cases h0 : b = 0
    · subst h0
      go_enter Try.func16, Try.ntmps16
      go_wp2_with fail
      exact bodyPost_ret (v := .tuple #[.int .u16 a, .int .u16 f, .bool true]) (by simp [results, Try.results16, go_sem]) rfl (ar_ret (by simp [arR]))
    · have d0 : (b == 0) = false := by rw [beq_eq_false_iff_ne]; exact h0
      obtain ⟨hq, hx⟩ := HDV.out h0
      have hy : IntKind.u16.wrap (a / b) = a / b := by rw [IntKind.wrap_u16]; have := hq.1; have := hq.2; omega
      have m1 : (if b < 1 then (1 : Int) else b) = b := by rw [if_neg]; have := HB.out; omega
      have m2 : ¬ b < 1 := by have := HB.out; omega
      have HQ := Lib.hid hq
      have H0 := Lib.hid h0
      clear hq h0
      go_enter Try.func16, Try.ntmps16
      go_wp2_with fail
      refine (HW.out _ _ HQ.out).mono ?_
      rintro e w1 ⟨rfl, rfl⟩
      go_wp2_with fail
      exact bodyPost_ret (v := .tuple #[.int .u16 (a / b), .int .u16 (withI f (a / b)), .bool false]) (by simp [results, Try.results16, go_sem]) rfl (ar_ret (by simp [arR, resI, H0.out]))
  · go_enter Try.func16, Try.ntmps16
    go_wp2_with fail
    refine (HSH.out 0 _ (by decide) (by decide)).mono ?_
    rintro e w1 ⟨rfl, rfl⟩
    go_wp2_with fail
    refine (HW.out _ _ (HSK.out 0)).mono ?_
    rintro e w1 ⟨rfl, rfl⟩
    go_wp2_with fail
    exact bodyPost_ret (v := .tuple #[.int .u16 (shN 0 a (b % 16).toNat), .int .u16 (withI f (shN 0 a (b % 16).toNat)), .bool false]) (by simp [results, Try.results16, go_sem]) rfl (ar_ret (by simp [arR, resI]))
  · go_enter Try.func16, Try.ntmps16
    go_wp2_with fail
    refine (HSH.out 1 _ (by decide) (by decide)).mono ?_
    rintro e w1 ⟨rfl, rfl⟩
    go_wp2_with fail
    refine (HW.out _ _ (HSK.out 1)).mono ?_
    rintro e w1 ⟨rfl, rfl⟩
    go_wp2_with fail
    exact bodyPost_ret (v := .tuple #[.int .u16 (shN 1 a (b % 16).toNat), .int .u16 (withI f (shN 1 a (b % 16).toNat)), .bool false]) (by simp [results, Try.results16, go_sem]) rfl (ar_ret (by simp [arR, resI]))
  · go_enter Try.func16, Try.ntmps16
    go_wp2_with fail
    refine (HSH.out 2 _ (by decide) (by decide)).mono ?_
    rintro e w1 ⟨rfl, rfl⟩
    go_wp2_with fail
    refine (HW.out _ _ (HSK.out 2)).mono ?_
    rintro e w1 ⟨rfl, rfl⟩
    go_wp2_with fail
    exact bodyPost_ret (v := .tuple #[.int .u16 (shN 2 a (b % 16).toNat), .int .u16 (withI f (shN 2 a (b % 16).toNat)), .bool false]) (by simp [results, Try.results16, go_sem]) rfl (ar_ret (by simp [arR, resI]))
end Go.Proofs.Ytieaicdihingkaa
