/- EvalBytes: the law's function returns true. -/
import Derived.Test.YtmhjnndhphidfaaGreatL1
import Derived.Test.YtmhjnndhphidfaaGreatH8
import Derived.Test.YtmhjnndhphidfaaGreatS2
import Derived.Test.YtmhjnndhphidfaaGreatV1
import Derived.Test.YtmhjnndhphidfaaGreatV2
namespace Go.Ab
set_option maxRecDepth 30000
open Go.Proofs Go.RowKit
set_option linter.unusedVariables false
set_option linter.unusedSimpArgs false
noncomputable def bSan : EntM := ⟨6, 0, [], [], .p (.bool true), 0, []⟩
theorem law4 (v : Nat) : RunOk Tryz.prog 4 [.p (.int .u16 (.ofNat v))] ⟨0, []⟩ (.ret (.p (.bool (allE (nz [eAnd v 255, eAnd (eAdd v 1) 255, e16 (e8 v), e16 (e8 v), e16 (e8 (eAdd v 2)), 65535, eAnd (eMul (eAnd v 255) 2) 255, eAnd v 255, eOr (e16 (e8 v)) 0, e16 (e8 v)]) (nz [eAnd v 255, eAnd (eAdd v 1) 255, eAnd v 255, eAnd v 255, eAnd (eAdd v 2) 255, 65535, eAnd (eMul (eAnd v 255) 2) 255, eAnd v 255, eAnd v 255, eAnd v 255]) (strW [(0, 255), (1, 255), (2, e8 (e8 v)), (5, e8 (e8 (eAdd v 2))), (256, e8 (e8 v)), (259, e8 (e8 v))]))))) ⟨0, []⟩ :=
  x10_ok (fs := [6, 7, 13]) (tab := [bSan, bV4, bV6]) (hs := [8]) (tah := [bX2]) (by
    intro e he
    simp only [List.mem_cons, List.not_mem_nil, or_false] at he
    rcases he with rfl | rfl | rfl
    · exact sanity15_ok
    · exact bV4_ok
    · exact bV6_ok) (by
    intro e he
    simp only [List.mem_cons, List.not_mem_nil, or_false] at he
    rcases he with rfl
    exact bX2_ok) (fuel := 100000) (n := 300) (me := 0) (by kernel_rfl)
theorem plain4 (v : Nat) (hv : v < 65536) : allE (nz [eAnd v 255, eAnd (eAdd v 1) 255, e16 (e8 v), e16 (e8 v), e16 (e8 (eAdd v 2)), 65535, eAnd (eMul (eAnd v 255) 2) 255, eAnd v 255, eOr (e16 (e8 v)) 0, e16 (e8 v)]) (nz [eAnd v 255, eAnd (eAdd v 1) 255, eAnd v 255, eAnd v 255, eAnd (eAdd v 2) 255, 65535, eAnd (eMul (eAnd v 255) 2) 255, eAnd v 255, eAnd v 255, eAnd v 255]) (strW [(0, 255), (1, 255), (2, e8 (e8 v)), (5, e8 (e8 (eAdd v 2))), (256, e8 (e8 v)), (259, e8 (e8 v))]) = true := by
  have h0 : difW (eAnd v 255) (eAnd v 255) = false := difW_self (by first | rfl | (simp only [eAnd_mod, eOr_zero, e8_def, e16_def, eAdd_def]; omega))
  have h1 : difW (eAnd (eAdd v 1) 255) (eAnd (eAdd v 1) 255) = false := difW_self (by first | rfl | (simp only [eAnd_mod, eOr_zero, e8_def, e16_def, eAdd_def]; omega))
  have h2 : difW (e16 (e8 v)) (eAnd v 255) = false := difW_self (by first | rfl | (simp only [eAnd_mod, eOr_zero, e8_def, e16_def, eAdd_def]; omega))
  have h3 : difW (e16 (e8 v)) (eAnd v 255) = false := difW_self (by first | rfl | (simp only [eAnd_mod, eOr_zero, e8_def, e16_def, eAdd_def]; omega))
  have h4 : difW (e16 (e8 (eAdd v 2))) (eAnd (eAdd v 2) 255) = false := difW_self (by first | rfl | (simp only [eAnd_mod, eOr_zero, e8_def, e16_def, eAdd_def]; omega))
  have h5 : difW (65535) (65535) = false := difW_self (by first | rfl | (simp only [eAnd_mod, eOr_zero, e8_def, e16_def, eAdd_def]; omega))
  have h6 : difW (eAnd (eMul (eAnd v 255) 2) 255) (eAnd (eMul (eAnd v 255) 2) 255) = false := difW_self (by first | rfl | (simp only [eAnd_mod, eOr_zero, e8_def, e16_def, eAdd_def]; omega))
  have h7 : difW (eAnd v 255) (eAnd v 255) = false := difW_self (by first | rfl | (simp only [eAnd_mod, eOr_zero, e8_def, e16_def, eAdd_def]; omega))
  have h8 : difW (eOr (e16 (e8 v)) 0) (eAnd v 255) = false := difW_self (by first | rfl | (simp only [eAnd_mod, eOr_zero, e8_def, e16_def, eAdd_def]; omega))
  have h9 : difW (e16 (e8 v)) (eAnd v 255) = false := difW_self (by first | rfl | (simp only [eAnd_mod, eOr_zero, e8_def, e16_def, eAdd_def]; omega))
  show bf (difW (eAnd v 255) (eAnd v 255)) false (bf (difW (eAnd (eAdd v 1) 255) (eAnd (eAdd v 1) 255)) false (bf (difW (e16 (e8 v)) (eAnd v 255)) false (bf (difW (e16 (e8 v)) (eAnd v 255)) false (bf (difW (e16 (e8 (eAdd v 2))) (eAnd (eAdd v 2) 255)) false (bf (difW (65535) (65535)) false (bf (difW (eAnd (eMul (eAnd v 255) 2) 255) (eAnd (eMul (eAnd v 255) 2) 255)) false (bf (difW (eAnd v 255) (eAnd v 255)) false (bf (difW (eOr (e16 (e8 v)) 0) (eAnd v 255)) false (bf (difW (e16 (e8 v)) (eAnd v 255)) false (beqI (.ofNat (len (strW [(0, 255), (1, 255), (2, e8 (e8 v)), (5, e8 (e8 (eAdd v 2))), (256, e8 (e8 v)), (259, e8 (e8 v))]))) (.ofNat 8192))))))))))) = true
  simp only [h0, h1, h2, h3, h4, h5, h6, h7, h8, h9, len_strW]
  rfl
theorem evalBytes_walk (a0 : Int) (W : World) (h0 : 0 ≤ a0) (h1 : a0 < 65536) : Calls Tryz.prog 4 #[.int .u16 a0] W fun e w' => e = .returned (.bool true) ∧ Go.RowKit.Below W.heap.size W w' := by
  obtain ⟨v, rfl⟩ := Int.eq_ofNat_of_zero_le h0
  have hv : v < 65536 := by omega
  have hr := law4 v
  rw [plain4 v hv] at hr
  refine (run_nil hr W [.int .u16 (.ofNat v)] (RL.cons (R.p (.int _ _)) .nil)).mono fun e w' => ?_
  rintro ⟨x, rfl, hE, O, G, n, hr, _⟩
  cases hr with
  | p _ _ h =>
    cases h
    exact ⟨rfl, hE.os, hE.tape, hE.output, hE.size, fun k hk => hE.keep k hk (fun h => h)⟩
end Go.Ab
