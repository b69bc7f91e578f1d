/- EvalPaths: the law for some indices. EvalPaths: the law for some indices. -/
import Derived.Test.YtmhjnndhphidfaaGreatH00
import Derived.Test.YtmhjnndhphidfaaGreatH01
import Derived.Test.YtmhjnndhphidfaaGreatH02
import Derived.Test.YtmhjnndhphidfaaGreatL0
import Derived.Test.YtmhjnndhphidfaaGreatH10
import Derived.Test.YtmhjnndhphidfaaGreatH11
import Derived.Test.YtmhjnndhphidfaaGreatH12
namespace Go.Ab
set_option maxRecDepth 30000
set_option linter.unusedSimpArgs false
open Go.Proofs Go.RowKit
set_option linter.unusedVariables false
noncomputable def eL00 : Env := EX10 [6, 7, 13] [bSan, pV0, pV4] [8] [q0017]
theorem envL00 : EnvOk Tryz.prog eL00 := envX10 (by
    intro e he
    simp only [List.mem_cons, List.not_mem_nil, or_false] at he
    rcases he with rfl | rfl | rfl
    · exact bSan_ok
    · exact pV0_ok
    · exact pV4_ok) (by
    intro e he
    simp only [List.mem_cons, List.not_mem_nil, or_false] at he
    rcases he with rfl
    exact q0017_ok)
noncomputable def cl00 : Cll := callE eL00 100000 300 5
noncomputable def rL00 (v : Nat) : List (Nat × Nat) := [(1, 66), (513, 66), (514, e8 (e8 v)), (515, e8 (e8 v)), (516, e8 (e8 (eShr v 8)))]
noncomputable def mL00 (v : Nat) : Mem := ⟨2, [runL (xL v 16899) (rL00 v), pgL]⟩
theorem w0_00 (i j v : Nat) : evCode k0 cl00 300 (fL i j v undefA undefA undefA undefA undefA undefA undefA undefA undefA) ⟨0, []⟩ = some (.normal, fL i j v undefA undefA undefA undefA undefA undefA undefA undefA ff, ⟨0, []⟩) := by kernel_rfl
theorem w1_00 (i j v : Nat) : evCode k1 cl00 300 (fL i j v undefA undefA undefA undefA undefA undefA undefA undefA ff) ⟨0, []⟩ = some (.normal, fL i j v undefA undefA undefA undefA undefA undefA tt undefA ff, ⟨0, []⟩) := by kernel_rfl
theorem w2_00 (i j v : Nat) : evCode k2 cl00 300 (fL i j v undefA undefA undefA undefA undefA undefA tt undefA ff) ⟨0, []⟩ = some (.normal, fL i j v (.ptr 0 0 0) undefA undefA undefA undefA undefA tt undefA ff, mL1) := by kernel_rfl
theorem w3_00 (i j v : Nat) : evCode k3 cl00 300 (fL i j v (.ptr 0 0 0) undefA undefA undefA undefA undefA tt undefA ff) mL1 = some (.normal, fL i j v (.ptr 0 0 0) (wd (e16 (Nat.mod i 5))) undefA undefA undefA undefA tt undefA ff, mL1) := by kernel_rfl
theorem w4_00 (i j v : Nat) (x : AV) : evCode k4 cl00 300 (fL i j v (.ptr 0 0 0) x undefA undefA undefA undefA tt undefA ff) mL1 = some (.normal, fL i j v (.ptr 0 0 0) x (wd (e16 (Nat.mod j 3))) undefA undefA undefA tt undefA ff, mL1) := by kernel_rfl
theorem w5_00 (i j v : Nat) : evCode k5 cl00 300 (fL i j v (.ptr 0 0 0) (wd 0) (wd 0) undefA undefA undefA tt undefA ff) mL1 = some (.normal, fL i j v (.ptr 0 0 0) (wd 0) (wd 0) (.ptr 1 0 0) undefA undefA tt undefA ff, mL00 v) := by kernel_rfl
theorem w6_00 (i j v : Nat) : evCode k6 cl00 300 (fL i j v (.ptr 0 0 0) (wd 0) (wd 0) (.ptr 1 0 0) undefA undefA tt undefA ff) (mL00 v) = some (.normal, fL i j v (.ptr 0 0 0) (wd 0) (wd 0) (.ptr 1 0 0) (wd 16899) undefA tt undefA ff, mL00 v) := by kernel_rfl
theorem w7_00 (i j v : Nat) : evCode k7R cl00 300 (fL i j v (.ptr 0 0 0) (wd 0) (wd 0) (.ptr 1 0 0) (wd 16899) undefA tt undefA ff) (mL00 v) =
    some (.normal, fL i j v (.ptr 0 0 0) (wd 0) (wd 0) (.ptr 1 0 0) (wd 16899) (.p (.bool (nt (allE (xL v 16899) (yL v 16899) (strW (rL00 v)))))) tt undefA ff, mL00 v) := by kernel_rfl
theorem w7c_00 (i j v : Nat) : evCode k7C cl00 300 (fL i j v (.ptr 0 0 0) (wd 0) (wd 0) (.ptr 1 0 0) (wd 16899) ff tt undefA ff) (mL00 v) = some (.normal, fL i j v (.ptr 0 0 0) (wd 0) (wd 0) (.ptr 1 0 0) (wd 16899) ff tt undefA ff, mL00 v) := by kernel_rfl
theorem w8_00 (i j v : Nat) : evCode k8 cl00 300 (fL i j v (.ptr 0 0 0) (wd 0) (wd 0) (.ptr 1 0 0) (wd 16899) ff tt undefA ff) (mL00 v) = some (.normal, fL i j v (.ptr 0 0 0) (wd 0) (wd 0) (.ptr 1 0 0) (wd 16899) ff tt (.p (.int .i64 (.ofNat 515))) ff, mL00 v) := by kernel_rfl
theorem w9a_00 (i j v : Nat) (K : RS → Out) : evIts k9a cl00 (fL i j v (.ptr 0 0 0) (wd 0) (wd 0) (.ptr 1 0 0) (wd 16899) ff tt (.p (.int .i64 (.ofNat 515))) ff) 0 ⟨[], [], [], mL00 v⟩ K =
    K ⟨[.p (.bool (beqI (.ofNat (e8 (e8 v))) (.ofNat (e8 v)))), .p (.bool (beqI (.ofNat (e8 (e8 v))) (.ofNat (e8 v)))), .p (.bool (beqI (.ofNat (e8 (e8 v))) (.ofNat (e8 v)))), .p (.int .u8 (.ofNat (e8 v))), wd v, .p (.int .u8 (.ofNat (e8 (e8 v)))), .p (.int .i64 (.ofNat 515)), .p (.str (strW (rL00 v))), .ptr 1 0 4, tt, tt], [], [], mL00 v⟩ := by kernel_rfl
theorem w9b_00 (i j v : Nat) : evIts k9b cl00 (fL i j v (.ptr 0 0 0) (wd 0) (wd 0) (.ptr 1 0 0) (wd 16899) ff tt (.p (.int .i64 (.ofNat 515))) ff) 0 ⟨[.p (.bool true), .p (.bool true), .p (.bool true), .p (.int .u8 (.ofNat (e8 v))), wd v, .p (.int .u8 (.ofNat (e8 (e8 v)))), .p (.int .i64 (.ofNat 515)), .p (.str (strW (rL00 v))), .ptr 1 0 4, tt, tt], [], [], mL00 v⟩ (finish [(11, 0)] (fL i j v (.ptr 0 0 0) (wd 0) (wd 0) (.ptr 1 0 0) (wd 16899) ff tt (.p (.int .i64 (.ofNat 515))) ff)) =
    some (.normal, fL i j v (.ptr 0 0 0) (wd 0) (wd 0) (.ptr 1 0 0) (wd 16899) ff tt (.p (.int .i64 (.ofNat 515))) (.p (.bool (beqI (.ofNat (e8 (e8 (eShr v 8)))) (.ofNat (e8 (eShr v 8)))))), mL00 v) := by kernel_rfl
theorem w9_00 (i j v : Nat) : evCode k9 cl00 300 (fL i j v (.ptr 0 0 0) (wd 0) (wd 0) (.ptr 1 0 0) (wd 16899) ff tt (.p (.int .i64 (.ofNat 515))) ff) (mL00 v) =
    some (.normal, fL i j v (.ptr 0 0 0) (wd 0) (wd 0) (.ptr 1 0 0) (wd 16899) ff tt (.p (.int .i64 (.ofNat 515))) tt, mL00 v) := by
  unfold k9
  rw [reg_two (w9a_00 i j v), lo_eq, w9b_00 i j v, lo_eq]
  rfl
theorem law5_00 (i j v : Nat) (hi : i % 5 = 0) (hj : j % 3 = 0) (hv : v < 65536) : evFun cl00 300 true cLaw5 [.p (.int .u8 (.ofNat i)), .p (.int .u8 (.ofNat j)), .p (.int .u16 (.ofNat v))] ⟨0, []⟩ = some (.ret (.p (.bool true)), ⟨0, []⟩) := by
  have ea : e16 (Nat.mod i 5) = 0 := by
    show i % 5 % 65536 = _
    rw [hi]
  have eb : e16 (Nat.mod j 3) = 0 := by
    show j % 3 % 65536 = _
    rw [hj]
  have h7 := w7_00 i j v
  rw [allL_true hv] at h7
  have h7 : evCode k7 cl00 300 (fL i j v (.ptr 0 0 0) (wd 0) (wd 0) (.ptr 1 0 0) (wd 16899) undefA tt undefA ff) (mL00 v) = some (.normal, fL i j v (.ptr 0 0 0) (wd 0) (wd 0) (.ptr 1 0 0) (wd 16899) ff tt undefA ff, mL00 v) := (seq_n h7).trans (w7c_00 i j v)
  have h3 := w3_00 i j v
  rw [ea] at h3
  have h4 := w4_00 i j v (wd 0)
  rw [eb] at h4
  show (ob (evCode (.seq k0 (.seq k1 (.seq k2 (.seq k3 (.seq k4 (.seq k5 (.seq k6 (.seq k7 (.seq k8 (.seq k9 k10)))))))))) cl00 300 (fL i j v undefA undefA undefA undefA undefA undefA undefA undefA undefA) ⟨0, []⟩) fun r => _) = _
  rw [seq_n (w0_00 i j v), seq_n (w1_00 i j v), seq_n (w2_00 i j v), seq_n h3, seq_n h4, seq_n (w5_00 i j v), seq_n (w6_00 i j v), seq_n h7, seq_n (w8_00 i j v), seq_n (w9_00 i j v)]
  kernel_rfl
theorem run5_00 (i j v : Nat) (hi : i % 5 = 0) (hj : j % 3 = 0) (hv : v < 65536) : RunOk Tryz.prog 5 [.p (.int .u8 (.ofNat i)), .p (.int .u8 (.ofNat j)), .p (.int .u16 (.ofNat v))] ⟨0, []⟩ (.ret (.p (.bool true))) ⟨0, []⟩ :=
  evFun_ok (by kernel_rfl) (callE_ok (by kernel_rfl) envL00 300 5) Tryz.func5 cLaw5_eq (law5_00 i j v hi hj hv)
noncomputable def eL01 : Env := EX10 [6, 7, 13] [bSan, pV0, pV4] [8] [q0117]
theorem envL01 : EnvOk Tryz.prog eL01 := envX10 (by
    intro e he
    simp only [List.mem_cons, List.not_mem_nil, or_false] at he
    rcases he with rfl | rfl | rfl
    · exact bSan_ok
    · exact pV0_ok
    · exact pV4_ok) (by
    intro e he
    simp only [List.mem_cons, List.not_mem_nil, or_false] at he
    rcases he with rfl
    exact q0117_ok)
noncomputable def cl01 : Cll := callE eL01 100000 300 5
noncomputable def rL01 (v : Nat) : List (Nat × Nat) := [(1, 66), (513, 66), (514, e8 (e8 v)), (517, e8 (e8 v)), (518, e8 (e8 (eShr v 8)))]
noncomputable def mL01 (v : Nat) : Mem := ⟨2, [runL (xL v 16901) (rL01 v), pgL]⟩
theorem w0_01 (i j v : Nat) : evCode k0 cl01 300 (fL i j v undefA undefA undefA undefA undefA undefA undefA undefA undefA) ⟨0, []⟩ = some (.normal, fL i j v undefA undefA undefA undefA undefA undefA undefA undefA ff, ⟨0, []⟩) := by kernel_rfl
theorem w1_01 (i j v : Nat) : evCode k1 cl01 300 (fL i j v undefA undefA undefA undefA undefA undefA undefA undefA ff) ⟨0, []⟩ = some (.normal, fL i j v undefA undefA undefA undefA undefA undefA tt undefA ff, ⟨0, []⟩) := by kernel_rfl
theorem w2_01 (i j v : Nat) : evCode k2 cl01 300 (fL i j v undefA undefA undefA undefA undefA undefA tt undefA ff) ⟨0, []⟩ = some (.normal, fL i j v (.ptr 0 0 0) undefA undefA undefA undefA undefA tt undefA ff, mL1) := by kernel_rfl
theorem w3_01 (i j v : Nat) : evCode k3 cl01 300 (fL i j v (.ptr 0 0 0) undefA undefA undefA undefA undefA tt undefA ff) mL1 = some (.normal, fL i j v (.ptr 0 0 0) (wd (e16 (Nat.mod i 5))) undefA undefA undefA undefA tt undefA ff, mL1) := by kernel_rfl
theorem w4_01 (i j v : Nat) (x : AV) : evCode k4 cl01 300 (fL i j v (.ptr 0 0 0) x undefA undefA undefA undefA tt undefA ff) mL1 = some (.normal, fL i j v (.ptr 0 0 0) x (wd (e16 (Nat.mod j 3))) undefA undefA undefA tt undefA ff, mL1) := by kernel_rfl
theorem w5_01 (i j v : Nat) : evCode k5 cl01 300 (fL i j v (.ptr 0 0 0) (wd 0) (wd 1) undefA undefA undefA tt undefA ff) mL1 = some (.normal, fL i j v (.ptr 0 0 0) (wd 0) (wd 1) (.ptr 1 0 0) undefA undefA tt undefA ff, mL01 v) := by kernel_rfl
theorem w6_01 (i j v : Nat) : evCode k6 cl01 300 (fL i j v (.ptr 0 0 0) (wd 0) (wd 1) (.ptr 1 0 0) undefA undefA tt undefA ff) (mL01 v) = some (.normal, fL i j v (.ptr 0 0 0) (wd 0) (wd 1) (.ptr 1 0 0) (wd 16901) undefA tt undefA ff, mL01 v) := by kernel_rfl
theorem w7_01 (i j v : Nat) : evCode k7R cl01 300 (fL i j v (.ptr 0 0 0) (wd 0) (wd 1) (.ptr 1 0 0) (wd 16901) undefA tt undefA ff) (mL01 v) =
    some (.normal, fL i j v (.ptr 0 0 0) (wd 0) (wd 1) (.ptr 1 0 0) (wd 16901) (.p (.bool (nt (allE (xL v 16901) (yL v 16901) (strW (rL01 v)))))) tt undefA ff, mL01 v) := by kernel_rfl
theorem w7c_01 (i j v : Nat) : evCode k7C cl01 300 (fL i j v (.ptr 0 0 0) (wd 0) (wd 1) (.ptr 1 0 0) (wd 16901) ff tt undefA ff) (mL01 v) = some (.normal, fL i j v (.ptr 0 0 0) (wd 0) (wd 1) (.ptr 1 0 0) (wd 16901) ff tt undefA ff, mL01 v) := by kernel_rfl
theorem w8_01 (i j v : Nat) : evCode k8 cl01 300 (fL i j v (.ptr 0 0 0) (wd 0) (wd 1) (.ptr 1 0 0) (wd 16901) ff tt undefA ff) (mL01 v) = some (.normal, fL i j v (.ptr 0 0 0) (wd 0) (wd 1) (.ptr 1 0 0) (wd 16901) ff tt (.p (.int .i64 (.ofNat 517))) ff, mL01 v) := by kernel_rfl
theorem w9a_01 (i j v : Nat) (K : RS → Out) : evIts k9a cl01 (fL i j v (.ptr 0 0 0) (wd 0) (wd 1) (.ptr 1 0 0) (wd 16901) ff tt (.p (.int .i64 (.ofNat 517))) ff) 0 ⟨[], [], [], mL01 v⟩ K =
    K ⟨[.p (.bool (beqI (.ofNat (e8 (e8 v))) (.ofNat (e8 v)))), .p (.bool (beqI (.ofNat (e8 (e8 v))) (.ofNat (e8 v)))), .p (.bool (beqI (.ofNat (e8 (e8 v))) (.ofNat (e8 v)))), .p (.int .u8 (.ofNat (e8 v))), wd v, .p (.int .u8 (.ofNat (e8 (e8 v)))), .p (.int .i64 (.ofNat 517)), .p (.str (strW (rL01 v))), .ptr 1 0 4, tt, tt], [], [], mL01 v⟩ := by kernel_rfl
theorem w9b_01 (i j v : Nat) : evIts k9b cl01 (fL i j v (.ptr 0 0 0) (wd 0) (wd 1) (.ptr 1 0 0) (wd 16901) ff tt (.p (.int .i64 (.ofNat 517))) ff) 0 ⟨[.p (.bool true), .p (.bool true), .p (.bool true), .p (.int .u8 (.ofNat (e8 v))), wd v, .p (.int .u8 (.ofNat (e8 (e8 v)))), .p (.int .i64 (.ofNat 517)), .p (.str (strW (rL01 v))), .ptr 1 0 4, tt, tt], [], [], mL01 v⟩ (finish [(11, 0)] (fL i j v (.ptr 0 0 0) (wd 0) (wd 1) (.ptr 1 0 0) (wd 16901) ff tt (.p (.int .i64 (.ofNat 517))) ff)) =
    some (.normal, fL i j v (.ptr 0 0 0) (wd 0) (wd 1) (.ptr 1 0 0) (wd 16901) ff tt (.p (.int .i64 (.ofNat 517))) (.p (.bool (beqI (.ofNat (e8 (e8 (eShr v 8)))) (.ofNat (e8 (eShr v 8)))))), mL01 v) := by kernel_rfl
theorem w9_01 (i j v : Nat) : evCode k9 cl01 300 (fL i j v (.ptr 0 0 0) (wd 0) (wd 1) (.ptr 1 0 0) (wd 16901) ff tt (.p (.int .i64 (.ofNat 517))) ff) (mL01 v) =
    some (.normal, fL i j v (.ptr 0 0 0) (wd 0) (wd 1) (.ptr 1 0 0) (wd 16901) ff tt (.p (.int .i64 (.ofNat 517))) tt, mL01 v) := by
  unfold k9
  rw [reg_two (w9a_01 i j v), lo_eq, w9b_01 i j v, lo_eq]
  rfl
theorem law5_01 (i j v : Nat) (hi : i % 5 = 0) (hj : j % 3 = 1) (hv : v < 65536) : evFun cl01 300 true cLaw5 [.p (.int .u8 (.ofNat i)), .p (.int .u8 (.ofNat j)), .p (.int .u16 (.ofNat v))] ⟨0, []⟩ = some (.ret (.p (.bool true)), ⟨0, []⟩) := by
  have ea : e16 (Nat.mod i 5) = 0 := by
    show i % 5 % 65536 = _
    rw [hi]
  have eb : e16 (Nat.mod j 3) = 1 := by
    show j % 3 % 65536 = _
    rw [hj]
  have h7 := w7_01 i j v
  rw [allL_true hv] at h7
  have h7 : evCode k7 cl01 300 (fL i j v (.ptr 0 0 0) (wd 0) (wd 1) (.ptr 1 0 0) (wd 16901) undefA tt undefA ff) (mL01 v) = some (.normal, fL i j v (.ptr 0 0 0) (wd 0) (wd 1) (.ptr 1 0 0) (wd 16901) ff tt undefA ff, mL01 v) := (seq_n h7).trans (w7c_01 i j v)
  have h3 := w3_01 i j v
  rw [ea] at h3
  have h4 := w4_01 i j v (wd 0)
  rw [eb] at h4
  show (ob (evCode (.seq k0 (.seq k1 (.seq k2 (.seq k3 (.seq k4 (.seq k5 (.seq k6 (.seq k7 (.seq k8 (.seq k9 k10)))))))))) cl01 300 (fL i j v undefA undefA undefA undefA undefA undefA undefA undefA undefA) ⟨0, []⟩) fun r => _) = _
  rw [seq_n (w0_01 i j v), seq_n (w1_01 i j v), seq_n (w2_01 i j v), seq_n h3, seq_n h4, seq_n (w5_01 i j v), seq_n (w6_01 i j v), seq_n h7, seq_n (w8_01 i j v), seq_n (w9_01 i j v)]
  kernel_rfl
theorem run5_01 (i j v : Nat) (hi : i % 5 = 0) (hj : j % 3 = 1) (hv : v < 65536) : RunOk Tryz.prog 5 [.p (.int .u8 (.ofNat i)), .p (.int .u8 (.ofNat j)), .p (.int .u16 (.ofNat v))] ⟨0, []⟩ (.ret (.p (.bool true))) ⟨0, []⟩ :=
  evFun_ok (by kernel_rfl) (callE_ok (by kernel_rfl) envL01 300 5) Tryz.func5 cLaw5_eq (law5_01 i j v hi hj hv)
noncomputable def eL02 : Env := EX10 [6, 7, 13] [bSan, pV0, pV4] [8] [q0217]
theorem envL02 : EnvOk Tryz.prog eL02 := envX10 (by
    intro e he
    simp only [List.mem_cons, List.not_mem_nil, or_false] at he
    rcases he with rfl | rfl | rfl
    · exact bSan_ok
    · exact pV0_ok
    · exact pV4_ok) (by
    intro e he
    simp only [List.mem_cons, List.not_mem_nil, or_false] at he
    rcases he with rfl
    exact q0217_ok)
noncomputable def cl02 : Cll := callE eL02 100000 300 5
noncomputable def rL02 (v : Nat) : List (Nat × Nat) := [(1, 66), (513, 66), (514, e8 (e8 v)), (519, e8 (e8 v)), (520, e8 (e8 (eShr v 8)))]
noncomputable def mL02 (v : Nat) : Mem := ⟨2, [runL (xL v 16903) (rL02 v), pgL]⟩
theorem w0_02 (i j v : Nat) : evCode k0 cl02 300 (fL i j v undefA undefA undefA undefA undefA undefA undefA undefA undefA) ⟨0, []⟩ = some (.normal, fL i j v undefA undefA undefA undefA undefA undefA undefA undefA ff, ⟨0, []⟩) := by kernel_rfl
theorem w1_02 (i j v : Nat) : evCode k1 cl02 300 (fL i j v undefA undefA undefA undefA undefA undefA undefA undefA ff) ⟨0, []⟩ = some (.normal, fL i j v undefA undefA undefA undefA undefA undefA tt undefA ff, ⟨0, []⟩) := by kernel_rfl
theorem w2_02 (i j v : Nat) : evCode k2 cl02 300 (fL i j v undefA undefA undefA undefA undefA undefA tt undefA ff) ⟨0, []⟩ = some (.normal, fL i j v (.ptr 0 0 0) undefA undefA undefA undefA undefA tt undefA ff, mL1) := by kernel_rfl
theorem w3_02 (i j v : Nat) : evCode k3 cl02 300 (fL i j v (.ptr 0 0 0) undefA undefA undefA undefA undefA tt undefA ff) mL1 = some (.normal, fL i j v (.ptr 0 0 0) (wd (e16 (Nat.mod i 5))) undefA undefA undefA undefA tt undefA ff, mL1) := by kernel_rfl
theorem w4_02 (i j v : Nat) (x : AV) : evCode k4 cl02 300 (fL i j v (.ptr 0 0 0) x undefA undefA undefA undefA tt undefA ff) mL1 = some (.normal, fL i j v (.ptr 0 0 0) x (wd (e16 (Nat.mod j 3))) undefA undefA undefA tt undefA ff, mL1) := by kernel_rfl
theorem w5_02 (i j v : Nat) : evCode k5 cl02 300 (fL i j v (.ptr 0 0 0) (wd 0) (wd 2) undefA undefA undefA tt undefA ff) mL1 = some (.normal, fL i j v (.ptr 0 0 0) (wd 0) (wd 2) (.ptr 1 0 0) undefA undefA tt undefA ff, mL02 v) := by kernel_rfl
theorem w6_02 (i j v : Nat) : evCode k6 cl02 300 (fL i j v (.ptr 0 0 0) (wd 0) (wd 2) (.ptr 1 0 0) undefA undefA tt undefA ff) (mL02 v) = some (.normal, fL i j v (.ptr 0 0 0) (wd 0) (wd 2) (.ptr 1 0 0) (wd 16903) undefA tt undefA ff, mL02 v) := by kernel_rfl
theorem w7_02 (i j v : Nat) : evCode k7R cl02 300 (fL i j v (.ptr 0 0 0) (wd 0) (wd 2) (.ptr 1 0 0) (wd 16903) undefA tt undefA ff) (mL02 v) =
    some (.normal, fL i j v (.ptr 0 0 0) (wd 0) (wd 2) (.ptr 1 0 0) (wd 16903) (.p (.bool (nt (allE (xL v 16903) (yL v 16903) (strW (rL02 v)))))) tt undefA ff, mL02 v) := by kernel_rfl
theorem w7c_02 (i j v : Nat) : evCode k7C cl02 300 (fL i j v (.ptr 0 0 0) (wd 0) (wd 2) (.ptr 1 0 0) (wd 16903) ff tt undefA ff) (mL02 v) = some (.normal, fL i j v (.ptr 0 0 0) (wd 0) (wd 2) (.ptr 1 0 0) (wd 16903) ff tt undefA ff, mL02 v) := by kernel_rfl
theorem w8_02 (i j v : Nat) : evCode k8 cl02 300 (fL i j v (.ptr 0 0 0) (wd 0) (wd 2) (.ptr 1 0 0) (wd 16903) ff tt undefA ff) (mL02 v) = some (.normal, fL i j v (.ptr 0 0 0) (wd 0) (wd 2) (.ptr 1 0 0) (wd 16903) ff tt (.p (.int .i64 (.ofNat 519))) ff, mL02 v) := by kernel_rfl
theorem w9a_02 (i j v : Nat) (K : RS → Out) : evIts k9a cl02 (fL i j v (.ptr 0 0 0) (wd 0) (wd 2) (.ptr 1 0 0) (wd 16903) ff tt (.p (.int .i64 (.ofNat 519))) ff) 0 ⟨[], [], [], mL02 v⟩ K =
    K ⟨[.p (.bool (beqI (.ofNat (e8 (e8 v))) (.ofNat (e8 v)))), .p (.bool (beqI (.ofNat (e8 (e8 v))) (.ofNat (e8 v)))), .p (.bool (beqI (.ofNat (e8 (e8 v))) (.ofNat (e8 v)))), .p (.int .u8 (.ofNat (e8 v))), wd v, .p (.int .u8 (.ofNat (e8 (e8 v)))), .p (.int .i64 (.ofNat 519)), .p (.str (strW (rL02 v))), .ptr 1 0 4, tt, tt], [], [], mL02 v⟩ := by kernel_rfl
theorem w9b_02 (i j v : Nat) : evIts k9b cl02 (fL i j v (.ptr 0 0 0) (wd 0) (wd 2) (.ptr 1 0 0) (wd 16903) ff tt (.p (.int .i64 (.ofNat 519))) ff) 0 ⟨[.p (.bool true), .p (.bool true), .p (.bool true), .p (.int .u8 (.ofNat (e8 v))), wd v, .p (.int .u8 (.ofNat (e8 (e8 v)))), .p (.int .i64 (.ofNat 519)), .p (.str (strW (rL02 v))), .ptr 1 0 4, tt, tt], [], [], mL02 v⟩ (finish [(11, 0)] (fL i j v (.ptr 0 0 0) (wd 0) (wd 2) (.ptr 1 0 0) (wd 16903) ff tt (.p (.int .i64 (.ofNat 519))) ff)) =
    some (.normal, fL i j v (.ptr 0 0 0) (wd 0) (wd 2) (.ptr 1 0 0) (wd 16903) ff tt (.p (.int .i64 (.ofNat 519))) (.p (.bool (beqI (.ofNat (e8 (e8 (eShr v 8)))) (.ofNat (e8 (eShr v 8)))))), mL02 v) := by kernel_rfl
theorem w9_02 (i j v : Nat) : evCode k9 cl02 300 (fL i j v (.ptr 0 0 0) (wd 0) (wd 2) (.ptr 1 0 0) (wd 16903) ff tt (.p (.int .i64 (.ofNat 519))) ff) (mL02 v) =
    some (.normal, fL i j v (.ptr 0 0 0) (wd 0) (wd 2) (.ptr 1 0 0) (wd 16903) ff tt (.p (.int .i64 (.ofNat 519))) tt, mL02 v) := by
  unfold k9
  rw [reg_two (w9a_02 i j v), lo_eq, w9b_02 i j v, lo_eq]
  rfl
theorem law5_02 (i j v : Nat) (hi : i % 5 = 0) (hj : j % 3 = 2) (hv : v < 65536) : evFun cl02 300 true cLaw5 [.p (.int .u8 (.ofNat i)), .p (.int .u8 (.ofNat j)), .p (.int .u16 (.ofNat v))] ⟨0, []⟩ = some (.ret (.p (.bool true)), ⟨0, []⟩) := by
  have ea : e16 (Nat.mod i 5) = 0 := by
    show i % 5 % 65536 = _
    rw [hi]
  have eb : e16 (Nat.mod j 3) = 2 := by
    show j % 3 % 65536 = _
    rw [hj]
  have h7 := w7_02 i j v
  rw [allL_true hv] at h7
  have h7 : evCode k7 cl02 300 (fL i j v (.ptr 0 0 0) (wd 0) (wd 2) (.ptr 1 0 0) (wd 16903) undefA tt undefA ff) (mL02 v) = some (.normal, fL i j v (.ptr 0 0 0) (wd 0) (wd 2) (.ptr 1 0 0) (wd 16903) ff tt undefA ff, mL02 v) := (seq_n h7).trans (w7c_02 i j v)
  have h3 := w3_02 i j v
  rw [ea] at h3
  have h4 := w4_02 i j v (wd 0)
  rw [eb] at h4
  show (ob (evCode (.seq k0 (.seq k1 (.seq k2 (.seq k3 (.seq k4 (.seq k5 (.seq k6 (.seq k7 (.seq k8 (.seq k9 k10)))))))))) cl02 300 (fL i j v undefA undefA undefA undefA undefA undefA undefA undefA undefA) ⟨0, []⟩) fun r => _) = _
  rw [seq_n (w0_02 i j v), seq_n (w1_02 i j v), seq_n (w2_02 i j v), seq_n h3, seq_n h4, seq_n (w5_02 i j v), seq_n (w6_02 i j v), seq_n h7, seq_n (w8_02 i j v), seq_n (w9_02 i j v)]
  kernel_rfl
theorem run5_02 (i j v : Nat) (hi : i % 5 = 0) (hj : j % 3 = 2) (hv : v < 65536) : RunOk Tryz.prog 5 [.p (.int .u8 (.ofNat i)), .p (.int .u8 (.ofNat j)), .p (.int .u16 (.ofNat v))] ⟨0, []⟩ (.ret (.p (.bool true))) ⟨0, []⟩ :=
  evFun_ok (by kernel_rfl) (callE_ok (by kernel_rfl) envL02 300 5) Tryz.func5 cLaw5_eq (law5_02 i j v hi hj hv)
end Go.Ab
namespace Go.Ab
set_option maxRecDepth 30000
set_option linter.unusedSimpArgs false
open Go.Proofs Go.RowKit
set_option linter.unusedVariables false
noncomputable def eL10 : Env := EX10 [6, 7, 13] [bSan, pV0, pV4] [8] [q1017]
theorem envL10 : EnvOk Tryz.prog eL10 := envX10 (by
    intro e he
    simp only [List.mem_cons, List.not_mem_nil, or_false] at he
    rcases he with rfl | rfl | rfl
    · exact bSan_ok
    · exact pV0_ok
    · exact pV4_ok) (by
    intro e he
    simp only [List.mem_cons, List.not_mem_nil, or_false] at he
    rcases he with rfl
    exact q1017_ok)
noncomputable def cl10 : Cll := callE eL10 100000 300 5
noncomputable def rL10 (v : Nat) : List (Nat × Nat) := [(0, 9), (1, 66), (521, 9), (522, 66), (523, e8 (e8 v)), (524, e8 (e8 v)), (525, e8 (e8 (eShr v 8)))]
noncomputable def mL10 (v : Nat) : Mem := ⟨2, [runL (xL v 16908) (rL10 v), pgL]⟩
theorem w0_10 (i j v : Nat) : evCode k0 cl10 300 (fL i j v undefA undefA undefA undefA undefA undefA undefA undefA undefA) ⟨0, []⟩ = some (.normal, fL i j v undefA undefA undefA undefA undefA undefA undefA undefA ff, ⟨0, []⟩) := by kernel_rfl
theorem w1_10 (i j v : Nat) : evCode k1 cl10 300 (fL i j v undefA undefA undefA undefA undefA undefA undefA undefA ff) ⟨0, []⟩ = some (.normal, fL i j v undefA undefA undefA undefA undefA undefA tt undefA ff, ⟨0, []⟩) := by kernel_rfl
theorem w2_10 (i j v : Nat) : evCode k2 cl10 300 (fL i j v undefA undefA undefA undefA undefA undefA tt undefA ff) ⟨0, []⟩ = some (.normal, fL i j v (.ptr 0 0 0) undefA undefA undefA undefA undefA tt undefA ff, mL1) := by kernel_rfl
theorem w3_10 (i j v : Nat) : evCode k3 cl10 300 (fL i j v (.ptr 0 0 0) undefA undefA undefA undefA undefA tt undefA ff) mL1 = some (.normal, fL i j v (.ptr 0 0 0) (wd (e16 (Nat.mod i 5))) undefA undefA undefA undefA tt undefA ff, mL1) := by kernel_rfl
theorem w4_10 (i j v : Nat) (x : AV) : evCode k4 cl10 300 (fL i j v (.ptr 0 0 0) x undefA undefA undefA undefA tt undefA ff) mL1 = some (.normal, fL i j v (.ptr 0 0 0) x (wd (e16 (Nat.mod j 3))) undefA undefA undefA tt undefA ff, mL1) := by kernel_rfl
theorem w5_10 (i j v : Nat) : evCode k5 cl10 300 (fL i j v (.ptr 0 0 0) (wd 1) (wd 0) undefA undefA undefA tt undefA ff) mL1 = some (.normal, fL i j v (.ptr 0 0 0) (wd 1) (wd 0) (.ptr 1 0 0) undefA undefA tt undefA ff, mL10 v) := by kernel_rfl
theorem w6_10 (i j v : Nat) : evCode k6 cl10 300 (fL i j v (.ptr 0 0 0) (wd 1) (wd 0) (.ptr 1 0 0) undefA undefA tt undefA ff) (mL10 v) = some (.normal, fL i j v (.ptr 0 0 0) (wd 1) (wd 0) (.ptr 1 0 0) (wd 16908) undefA tt undefA ff, mL10 v) := by kernel_rfl
theorem w7_10 (i j v : Nat) : evCode k7R cl10 300 (fL i j v (.ptr 0 0 0) (wd 1) (wd 0) (.ptr 1 0 0) (wd 16908) undefA tt undefA ff) (mL10 v) =
    some (.normal, fL i j v (.ptr 0 0 0) (wd 1) (wd 0) (.ptr 1 0 0) (wd 16908) (.p (.bool (nt (allE (xL v 16908) (yL v 16908) (strW (rL10 v)))))) tt undefA ff, mL10 v) := by kernel_rfl
theorem w7c_10 (i j v : Nat) : evCode k7C cl10 300 (fL i j v (.ptr 0 0 0) (wd 1) (wd 0) (.ptr 1 0 0) (wd 16908) ff tt undefA ff) (mL10 v) = some (.normal, fL i j v (.ptr 0 0 0) (wd 1) (wd 0) (.ptr 1 0 0) (wd 16908) ff tt undefA ff, mL10 v) := by kernel_rfl
theorem w8_10 (i j v : Nat) : evCode k8 cl10 300 (fL i j v (.ptr 0 0 0) (wd 1) (wd 0) (.ptr 1 0 0) (wd 16908) ff tt undefA ff) (mL10 v) = some (.normal, fL i j v (.ptr 0 0 0) (wd 1) (wd 0) (.ptr 1 0 0) (wd 16908) ff tt (.p (.int .i64 (.ofNat 524))) ff, mL10 v) := by kernel_rfl
theorem w9a_10 (i j v : Nat) (K : RS → Out) : evIts k9a cl10 (fL i j v (.ptr 0 0 0) (wd 1) (wd 0) (.ptr 1 0 0) (wd 16908) ff tt (.p (.int .i64 (.ofNat 524))) ff) 0 ⟨[], [], [], mL10 v⟩ K =
    K ⟨[.p (.bool (beqI (.ofNat (e8 (e8 v))) (.ofNat (e8 v)))), .p (.bool (beqI (.ofNat (e8 (e8 v))) (.ofNat (e8 v)))), .p (.bool (beqI (.ofNat (e8 (e8 v))) (.ofNat (e8 v)))), .p (.int .u8 (.ofNat (e8 v))), wd v, .p (.int .u8 (.ofNat (e8 (e8 v)))), .p (.int .i64 (.ofNat 524)), .p (.str (strW (rL10 v))), .ptr 1 0 4, tt, tt], [], [], mL10 v⟩ := by kernel_rfl
theorem w9b_10 (i j v : Nat) : evIts k9b cl10 (fL i j v (.ptr 0 0 0) (wd 1) (wd 0) (.ptr 1 0 0) (wd 16908) ff tt (.p (.int .i64 (.ofNat 524))) ff) 0 ⟨[.p (.bool true), .p (.bool true), .p (.bool true), .p (.int .u8 (.ofNat (e8 v))), wd v, .p (.int .u8 (.ofNat (e8 (e8 v)))), .p (.int .i64 (.ofNat 524)), .p (.str (strW (rL10 v))), .ptr 1 0 4, tt, tt], [], [], mL10 v⟩ (finish [(11, 0)] (fL i j v (.ptr 0 0 0) (wd 1) (wd 0) (.ptr 1 0 0) (wd 16908) ff tt (.p (.int .i64 (.ofNat 524))) ff)) =
    some (.normal, fL i j v (.ptr 0 0 0) (wd 1) (wd 0) (.ptr 1 0 0) (wd 16908) ff tt (.p (.int .i64 (.ofNat 524))) (.p (.bool (beqI (.ofNat (e8 (e8 (eShr v 8)))) (.ofNat (e8 (eShr v 8)))))), mL10 v) := by kernel_rfl
theorem w9_10 (i j v : Nat) : evCode k9 cl10 300 (fL i j v (.ptr 0 0 0) (wd 1) (wd 0) (.ptr 1 0 0) (wd 16908) ff tt (.p (.int .i64 (.ofNat 524))) ff) (mL10 v) =
    some (.normal, fL i j v (.ptr 0 0 0) (wd 1) (wd 0) (.ptr 1 0 0) (wd 16908) ff tt (.p (.int .i64 (.ofNat 524))) tt, mL10 v) := by
  unfold k9
  rw [reg_two (w9a_10 i j v), lo_eq, w9b_10 i j v, lo_eq]
  rfl
theorem law5_10 (i j v : Nat) (hi : i % 5 = 1) (hj : j % 3 = 0) (hv : v < 65536) : evFun cl10 300 true cLaw5 [.p (.int .u8 (.ofNat i)), .p (.int .u8 (.ofNat j)), .p (.int .u16 (.ofNat v))] ⟨0, []⟩ = some (.ret (.p (.bool true)), ⟨0, []⟩) := by
  have ea : e16 (Nat.mod i 5) = 1 := by
    show i % 5 % 65536 = _
    rw [hi]
  have eb : e16 (Nat.mod j 3) = 0 := by
    show j % 3 % 65536 = _
    rw [hj]
  have h7 := w7_10 i j v
  rw [allL_true hv] at h7
  have h7 : evCode k7 cl10 300 (fL i j v (.ptr 0 0 0) (wd 1) (wd 0) (.ptr 1 0 0) (wd 16908) undefA tt undefA ff) (mL10 v) = some (.normal, fL i j v (.ptr 0 0 0) (wd 1) (wd 0) (.ptr 1 0 0) (wd 16908) ff tt undefA ff, mL10 v) := (seq_n h7).trans (w7c_10 i j v)
  have h3 := w3_10 i j v
  rw [ea] at h3
  have h4 := w4_10 i j v (wd 1)
  rw [eb] at h4
  show (ob (evCode (.seq k0 (.seq k1 (.seq k2 (.seq k3 (.seq k4 (.seq k5 (.seq k6 (.seq k7 (.seq k8 (.seq k9 k10)))))))))) cl10 300 (fL i j v undefA undefA undefA undefA undefA undefA undefA undefA undefA) ⟨0, []⟩) fun r => _) = _
  rw [seq_n (w0_10 i j v), seq_n (w1_10 i j v), seq_n (w2_10 i j v), seq_n h3, seq_n h4, seq_n (w5_10 i j v), seq_n (w6_10 i j v), seq_n h7, seq_n (w8_10 i j v), seq_n (w9_10 i j v)]
  kernel_rfl
theorem run5_10 (i j v : Nat) (hi : i % 5 = 1) (hj : j % 3 = 0) (hv : v < 65536) : RunOk Tryz.prog 5 [.p (.int .u8 (.ofNat i)), .p (.int .u8 (.ofNat j)), .p (.int .u16 (.ofNat v))] ⟨0, []⟩ (.ret (.p (.bool true))) ⟨0, []⟩ :=
  evFun_ok (by kernel_rfl) (callE_ok (by kernel_rfl) envL10 300 5) Tryz.func5 cLaw5_eq (law5_10 i j v hi hj hv)
noncomputable def eL11 : Env := EX10 [6, 7, 13] [bSan, pV0, pV4] [8] [q1117]
theorem envL11 : EnvOk Tryz.prog eL11 := envX10 (by
    intro e he
    simp only [List.mem_cons, List.not_mem_nil, or_false] at he
    rcases he with rfl | rfl | rfl
    · exact bSan_ok
    · exact pV0_ok
    · exact pV4_ok) (by
    intro e he
    simp only [List.mem_cons, List.not_mem_nil, or_false] at he
    rcases he with rfl
    exact q1117_ok)
noncomputable def cl11 : Cll := callE eL11 100000 300 5
noncomputable def rL11 (v : Nat) : List (Nat × Nat) := [(0, 9), (1, 66), (521, 9), (522, 66), (523, e8 (e8 v)), (526, e8 (e8 v)), (527, e8 (e8 (eShr v 8)))]
noncomputable def mL11 (v : Nat) : Mem := ⟨2, [runL (xL v 16910) (rL11 v), pgL]⟩
theorem w0_11 (i j v : Nat) : evCode k0 cl11 300 (fL i j v undefA undefA undefA undefA undefA undefA undefA undefA undefA) ⟨0, []⟩ = some (.normal, fL i j v undefA undefA undefA undefA undefA undefA undefA undefA ff, ⟨0, []⟩) := by kernel_rfl
theorem w1_11 (i j v : Nat) : evCode k1 cl11 300 (fL i j v undefA undefA undefA undefA undefA undefA undefA undefA ff) ⟨0, []⟩ = some (.normal, fL i j v undefA undefA undefA undefA undefA undefA tt undefA ff, ⟨0, []⟩) := by kernel_rfl
theorem w2_11 (i j v : Nat) : evCode k2 cl11 300 (fL i j v undefA undefA undefA undefA undefA undefA tt undefA ff) ⟨0, []⟩ = some (.normal, fL i j v (.ptr 0 0 0) undefA undefA undefA undefA undefA tt undefA ff, mL1) := by kernel_rfl
theorem w3_11 (i j v : Nat) : evCode k3 cl11 300 (fL i j v (.ptr 0 0 0) undefA undefA undefA undefA undefA tt undefA ff) mL1 = some (.normal, fL i j v (.ptr 0 0 0) (wd (e16 (Nat.mod i 5))) undefA undefA undefA undefA tt undefA ff, mL1) := by kernel_rfl
theorem w4_11 (i j v : Nat) (x : AV) : evCode k4 cl11 300 (fL i j v (.ptr 0 0 0) x undefA undefA undefA undefA tt undefA ff) mL1 = some (.normal, fL i j v (.ptr 0 0 0) x (wd (e16 (Nat.mod j 3))) undefA undefA undefA tt undefA ff, mL1) := by kernel_rfl
theorem w5_11 (i j v : Nat) : evCode k5 cl11 300 (fL i j v (.ptr 0 0 0) (wd 1) (wd 1) undefA undefA undefA tt undefA ff) mL1 = some (.normal, fL i j v (.ptr 0 0 0) (wd 1) (wd 1) (.ptr 1 0 0) undefA undefA tt undefA ff, mL11 v) := by kernel_rfl
theorem w6_11 (i j v : Nat) : evCode k6 cl11 300 (fL i j v (.ptr 0 0 0) (wd 1) (wd 1) (.ptr 1 0 0) undefA undefA tt undefA ff) (mL11 v) = some (.normal, fL i j v (.ptr 0 0 0) (wd 1) (wd 1) (.ptr 1 0 0) (wd 16910) undefA tt undefA ff, mL11 v) := by kernel_rfl
theorem w7_11 (i j v : Nat) : evCode k7R cl11 300 (fL i j v (.ptr 0 0 0) (wd 1) (wd 1) (.ptr 1 0 0) (wd 16910) undefA tt undefA ff) (mL11 v) =
    some (.normal, fL i j v (.ptr 0 0 0) (wd 1) (wd 1) (.ptr 1 0 0) (wd 16910) (.p (.bool (nt (allE (xL v 16910) (yL v 16910) (strW (rL11 v)))))) tt undefA ff, mL11 v) := by kernel_rfl
theorem w7c_11 (i j v : Nat) : evCode k7C cl11 300 (fL i j v (.ptr 0 0 0) (wd 1) (wd 1) (.ptr 1 0 0) (wd 16910) ff tt undefA ff) (mL11 v) = some (.normal, fL i j v (.ptr 0 0 0) (wd 1) (wd 1) (.ptr 1 0 0) (wd 16910) ff tt undefA ff, mL11 v) := by kernel_rfl
theorem w8_11 (i j v : Nat) : evCode k8 cl11 300 (fL i j v (.ptr 0 0 0) (wd 1) (wd 1) (.ptr 1 0 0) (wd 16910) ff tt undefA ff) (mL11 v) = some (.normal, fL i j v (.ptr 0 0 0) (wd 1) (wd 1) (.ptr 1 0 0) (wd 16910) ff tt (.p (.int .i64 (.ofNat 526))) ff, mL11 v) := by kernel_rfl
theorem w9a_11 (i j v : Nat) (K : RS → Out) : evIts k9a cl11 (fL i j v (.ptr 0 0 0) (wd 1) (wd 1) (.ptr 1 0 0) (wd 16910) ff tt (.p (.int .i64 (.ofNat 526))) ff) 0 ⟨[], [], [], mL11 v⟩ K =
    K ⟨[.p (.bool (beqI (.ofNat (e8 (e8 v))) (.ofNat (e8 v)))), .p (.bool (beqI (.ofNat (e8 (e8 v))) (.ofNat (e8 v)))), .p (.bool (beqI (.ofNat (e8 (e8 v))) (.ofNat (e8 v)))), .p (.int .u8 (.ofNat (e8 v))), wd v, .p (.int .u8 (.ofNat (e8 (e8 v)))), .p (.int .i64 (.ofNat 526)), .p (.str (strW (rL11 v))), .ptr 1 0 4, tt, tt], [], [], mL11 v⟩ := by kernel_rfl
theorem w9b_11 (i j v : Nat) : evIts k9b cl11 (fL i j v (.ptr 0 0 0) (wd 1) (wd 1) (.ptr 1 0 0) (wd 16910) ff tt (.p (.int .i64 (.ofNat 526))) ff) 0 ⟨[.p (.bool true), .p (.bool true), .p (.bool true), .p (.int .u8 (.ofNat (e8 v))), wd v, .p (.int .u8 (.ofNat (e8 (e8 v)))), .p (.int .i64 (.ofNat 526)), .p (.str (strW (rL11 v))), .ptr 1 0 4, tt, tt], [], [], mL11 v⟩ (finish [(11, 0)] (fL i j v (.ptr 0 0 0) (wd 1) (wd 1) (.ptr 1 0 0) (wd 16910) ff tt (.p (.int .i64 (.ofNat 526))) ff)) =
    some (.normal, fL i j v (.ptr 0 0 0) (wd 1) (wd 1) (.ptr 1 0 0) (wd 16910) ff tt (.p (.int .i64 (.ofNat 526))) (.p (.bool (beqI (.ofNat (e8 (e8 (eShr v 8)))) (.ofNat (e8 (eShr v 8)))))), mL11 v) := by kernel_rfl
theorem w9_11 (i j v : Nat) : evCode k9 cl11 300 (fL i j v (.ptr 0 0 0) (wd 1) (wd 1) (.ptr 1 0 0) (wd 16910) ff tt (.p (.int .i64 (.ofNat 526))) ff) (mL11 v) =
    some (.normal, fL i j v (.ptr 0 0 0) (wd 1) (wd 1) (.ptr 1 0 0) (wd 16910) ff tt (.p (.int .i64 (.ofNat 526))) tt, mL11 v) := by
  unfold k9
  rw [reg_two (w9a_11 i j v), lo_eq, w9b_11 i j v, lo_eq]
  rfl
theorem law5_11 (i j v : Nat) (hi : i % 5 = 1) (hj : j % 3 = 1) (hv : v < 65536) : evFun cl11 300 true cLaw5 [.p (.int .u8 (.ofNat i)), .p (.int .u8 (.ofNat j)), .p (.int .u16 (.ofNat v))] ⟨0, []⟩ = some (.ret (.p (.bool true)), ⟨0, []⟩) := by
  have ea : e16 (Nat.mod i 5) = 1 := by
    show i % 5 % 65536 = _
    rw [hi]
  have eb : e16 (Nat.mod j 3) = 1 := by
    show j % 3 % 65536 = _
    rw [hj]
  have h7 := w7_11 i j v
  rw [allL_true hv] at h7
  have h7 : evCode k7 cl11 300 (fL i j v (.ptr 0 0 0) (wd 1) (wd 1) (.ptr 1 0 0) (wd 16910) undefA tt undefA ff) (mL11 v) = some (.normal, fL i j v (.ptr 0 0 0) (wd 1) (wd 1) (.ptr 1 0 0) (wd 16910) ff tt undefA ff, mL11 v) := (seq_n h7).trans (w7c_11 i j v)
  have h3 := w3_11 i j v
  rw [ea] at h3
  have h4 := w4_11 i j v (wd 1)
  rw [eb] at h4
  show (ob (evCode (.seq k0 (.seq k1 (.seq k2 (.seq k3 (.seq k4 (.seq k5 (.seq k6 (.seq k7 (.seq k8 (.seq k9 k10)))))))))) cl11 300 (fL i j v undefA undefA undefA undefA undefA undefA undefA undefA undefA) ⟨0, []⟩) fun r => _) = _
  rw [seq_n (w0_11 i j v), seq_n (w1_11 i j v), seq_n (w2_11 i j v), seq_n h3, seq_n h4, seq_n (w5_11 i j v), seq_n (w6_11 i j v), seq_n h7, seq_n (w8_11 i j v), seq_n (w9_11 i j v)]
  kernel_rfl
theorem run5_11 (i j v : Nat) (hi : i % 5 = 1) (hj : j % 3 = 1) (hv : v < 65536) : RunOk Tryz.prog 5 [.p (.int .u8 (.ofNat i)), .p (.int .u8 (.ofNat j)), .p (.int .u16 (.ofNat v))] ⟨0, []⟩ (.ret (.p (.bool true))) ⟨0, []⟩ :=
  evFun_ok (by kernel_rfl) (callE_ok (by kernel_rfl) envL11 300 5) Tryz.func5 cLaw5_eq (law5_11 i j v hi hj hv)
noncomputable def eL12 : Env := EX10 [6, 7, 13] [bSan, pV0, pV4] [8] [q1217]
theorem envL12 : EnvOk Tryz.prog eL12 := envX10 (by
    intro e he
    simp only [List.mem_cons, List.not_mem_nil, or_false] at he
    rcases he with rfl | rfl | rfl
    · exact bSan_ok
    · exact pV0_ok
    · exact pV4_ok) (by
    intro e he
    simp only [List.mem_cons, List.not_mem_nil, or_false] at he
    rcases he with rfl
    exact q1217_ok)
noncomputable def cl12 : Cll := callE eL12 100000 300 5
noncomputable def rL12 (v : Nat) : List (Nat × Nat) := [(0, 9), (1, 66), (521, 9), (522, 66), (523, e8 (e8 v)), (528, e8 (e8 v)), (529, e8 (e8 (eShr v 8)))]
noncomputable def mL12 (v : Nat) : Mem := ⟨2, [runL (xL v 16912) (rL12 v), pgL]⟩
theorem w0_12 (i j v : Nat) : evCode k0 cl12 300 (fL i j v undefA undefA undefA undefA undefA undefA undefA undefA undefA) ⟨0, []⟩ = some (.normal, fL i j v undefA undefA undefA undefA undefA undefA undefA undefA ff, ⟨0, []⟩) := by kernel_rfl
theorem w1_12 (i j v : Nat) : evCode k1 cl12 300 (fL i j v undefA undefA undefA undefA undefA undefA undefA undefA ff) ⟨0, []⟩ = some (.normal, fL i j v undefA undefA undefA undefA undefA undefA tt undefA ff, ⟨0, []⟩) := by kernel_rfl
theorem w2_12 (i j v : Nat) : evCode k2 cl12 300 (fL i j v undefA undefA undefA undefA undefA undefA tt undefA ff) ⟨0, []⟩ = some (.normal, fL i j v (.ptr 0 0 0) undefA undefA undefA undefA undefA tt undefA ff, mL1) := by kernel_rfl
theorem w3_12 (i j v : Nat) : evCode k3 cl12 300 (fL i j v (.ptr 0 0 0) undefA undefA undefA undefA undefA tt undefA ff) mL1 = some (.normal, fL i j v (.ptr 0 0 0) (wd (e16 (Nat.mod i 5))) undefA undefA undefA undefA tt undefA ff, mL1) := by kernel_rfl
theorem w4_12 (i j v : Nat) (x : AV) : evCode k4 cl12 300 (fL i j v (.ptr 0 0 0) x undefA undefA undefA undefA tt undefA ff) mL1 = some (.normal, fL i j v (.ptr 0 0 0) x (wd (e16 (Nat.mod j 3))) undefA undefA undefA tt undefA ff, mL1) := by kernel_rfl
theorem w5_12 (i j v : Nat) : evCode k5 cl12 300 (fL i j v (.ptr 0 0 0) (wd 1) (wd 2) undefA undefA undefA tt undefA ff) mL1 = some (.normal, fL i j v (.ptr 0 0 0) (wd 1) (wd 2) (.ptr 1 0 0) undefA undefA tt undefA ff, mL12 v) := by kernel_rfl
theorem w6_12 (i j v : Nat) : evCode k6 cl12 300 (fL i j v (.ptr 0 0 0) (wd 1) (wd 2) (.ptr 1 0 0) undefA undefA tt undefA ff) (mL12 v) = some (.normal, fL i j v (.ptr 0 0 0) (wd 1) (wd 2) (.ptr 1 0 0) (wd 16912) undefA tt undefA ff, mL12 v) := by kernel_rfl
theorem w7_12 (i j v : Nat) : evCode k7R cl12 300 (fL i j v (.ptr 0 0 0) (wd 1) (wd 2) (.ptr 1 0 0) (wd 16912) undefA tt undefA ff) (mL12 v) =
    some (.normal, fL i j v (.ptr 0 0 0) (wd 1) (wd 2) (.ptr 1 0 0) (wd 16912) (.p (.bool (nt (allE (xL v 16912) (yL v 16912) (strW (rL12 v)))))) tt undefA ff, mL12 v) := by kernel_rfl
theorem w7c_12 (i j v : Nat) : evCode k7C cl12 300 (fL i j v (.ptr 0 0 0) (wd 1) (wd 2) (.ptr 1 0 0) (wd 16912) ff tt undefA ff) (mL12 v) = some (.normal, fL i j v (.ptr 0 0 0) (wd 1) (wd 2) (.ptr 1 0 0) (wd 16912) ff tt undefA ff, mL12 v) := by kernel_rfl
theorem w8_12 (i j v : Nat) : evCode k8 cl12 300 (fL i j v (.ptr 0 0 0) (wd 1) (wd 2) (.ptr 1 0 0) (wd 16912) ff tt undefA ff) (mL12 v) = some (.normal, fL i j v (.ptr 0 0 0) (wd 1) (wd 2) (.ptr 1 0 0) (wd 16912) ff tt (.p (.int .i64 (.ofNat 528))) ff, mL12 v) := by kernel_rfl
theorem w9a_12 (i j v : Nat) (K : RS → Out) : evIts k9a cl12 (fL i j v (.ptr 0 0 0) (wd 1) (wd 2) (.ptr 1 0 0) (wd 16912) ff tt (.p (.int .i64 (.ofNat 528))) ff) 0 ⟨[], [], [], mL12 v⟩ K =
    K ⟨[.p (.bool (beqI (.ofNat (e8 (e8 v))) (.ofNat (e8 v)))), .p (.bool (beqI (.ofNat (e8 (e8 v))) (.ofNat (e8 v)))), .p (.bool (beqI (.ofNat (e8 (e8 v))) (.ofNat (e8 v)))), .p (.int .u8 (.ofNat (e8 v))), wd v, .p (.int .u8 (.ofNat (e8 (e8 v)))), .p (.int .i64 (.ofNat 528)), .p (.str (strW (rL12 v))), .ptr 1 0 4, tt, tt], [], [], mL12 v⟩ := by kernel_rfl
theorem w9b_12 (i j v : Nat) : evIts k9b cl12 (fL i j v (.ptr 0 0 0) (wd 1) (wd 2) (.ptr 1 0 0) (wd 16912) ff tt (.p (.int .i64 (.ofNat 528))) ff) 0 ⟨[.p (.bool true), .p (.bool true), .p (.bool true), .p (.int .u8 (.ofNat (e8 v))), wd v, .p (.int .u8 (.ofNat (e8 (e8 v)))), .p (.int .i64 (.ofNat 528)), .p (.str (strW (rL12 v))), .ptr 1 0 4, tt, tt], [], [], mL12 v⟩ (finish [(11, 0)] (fL i j v (.ptr 0 0 0) (wd 1) (wd 2) (.ptr 1 0 0) (wd 16912) ff tt (.p (.int .i64 (.ofNat 528))) ff)) =
    some (.normal, fL i j v (.ptr 0 0 0) (wd 1) (wd 2) (.ptr 1 0 0) (wd 16912) ff tt (.p (.int .i64 (.ofNat 528))) (.p (.bool (beqI (.ofNat (e8 (e8 (eShr v 8)))) (.ofNat (e8 (eShr v 8)))))), mL12 v) := by kernel_rfl
theorem w9_12 (i j v : Nat) : evCode k9 cl12 300 (fL i j v (.ptr 0 0 0) (wd 1) (wd 2) (.ptr 1 0 0) (wd 16912) ff tt (.p (.int .i64 (.ofNat 528))) ff) (mL12 v) =
    some (.normal, fL i j v (.ptr 0 0 0) (wd 1) (wd 2) (.ptr 1 0 0) (wd 16912) ff tt (.p (.int .i64 (.ofNat 528))) tt, mL12 v) := by
  unfold k9
  rw [reg_two (w9a_12 i j v), lo_eq, w9b_12 i j v, lo_eq]
  rfl
theorem law5_12 (i j v : Nat) (hi : i % 5 = 1) (hj : j % 3 = 2) (hv : v < 65536) : evFun cl12 300 true cLaw5 [.p (.int .u8 (.ofNat i)), .p (.int .u8 (.ofNat j)), .p (.int .u16 (.ofNat v))] ⟨0, []⟩ = some (.ret (.p (.bool true)), ⟨0, []⟩) := by
  have ea : e16 (Nat.mod i 5) = 1 := by
    show i % 5 % 65536 = _
    rw [hi]
  have eb : e16 (Nat.mod j 3) = 2 := by
    show j % 3 % 65536 = _
    rw [hj]
  have h7 := w7_12 i j v
  rw [allL_true hv] at h7
  have h7 : evCode k7 cl12 300 (fL i j v (.ptr 0 0 0) (wd 1) (wd 2) (.ptr 1 0 0) (wd 16912) undefA tt undefA ff) (mL12 v) = some (.normal, fL i j v (.ptr 0 0 0) (wd 1) (wd 2) (.ptr 1 0 0) (wd 16912) ff tt undefA ff, mL12 v) := (seq_n h7).trans (w7c_12 i j v)
  have h3 := w3_12 i j v
  rw [ea] at h3
  have h4 := w4_12 i j v (wd 1)
  rw [eb] at h4
  show (ob (evCode (.seq k0 (.seq k1 (.seq k2 (.seq k3 (.seq k4 (.seq k5 (.seq k6 (.seq k7 (.seq k8 (.seq k9 k10)))))))))) cl12 300 (fL i j v undefA undefA undefA undefA undefA undefA undefA undefA undefA) ⟨0, []⟩) fun r => _) = _
  rw [seq_n (w0_12 i j v), seq_n (w1_12 i j v), seq_n (w2_12 i j v), seq_n h3, seq_n h4, seq_n (w5_12 i j v), seq_n (w6_12 i j v), seq_n h7, seq_n (w8_12 i j v), seq_n (w9_12 i j v)]
  kernel_rfl
theorem run5_12 (i j v : Nat) (hi : i % 5 = 1) (hj : j % 3 = 2) (hv : v < 65536) : RunOk Tryz.prog 5 [.p (.int .u8 (.ofNat i)), .p (.int .u8 (.ofNat j)), .p (.int .u16 (.ofNat v))] ⟨0, []⟩ (.ret (.p (.bool true))) ⟨0, []⟩ :=
  evFun_ok (by kernel_rfl) (callE_ok (by kernel_rfl) envL12 300 5) Tryz.func5 cLaw5_eq (law5_12 i j v hi hj hv)
end Go.Ab
