/- EvalPaths: the law for some indices. EvalPaths: the law for some indices. -/
import Derived.Test.YtmhjnndhphidfaaGreatH20
import Derived.Test.YtmhjnndhphidfaaGreatH21
import Derived.Test.YtmhjnndhphidfaaGreatH22
import Derived.Test.YtmhjnndhphidfaaGreatL0
import Derived.Test.YtmhjnndhphidfaaGreatH30
import Derived.Test.YtmhjnndhphidfaaGreatH31
import Derived.Test.YtmhjnndhphidfaaGreatH32
namespace Go.Ab
set_option maxRecDepth 30000
set_option linter.unusedSimpArgs false
open Go.Proofs Go.RowKit
set_option linter.unusedVariables false
noncomputable def eL20 : Env := EX10 [6, 7, 13] [bSan, pV0, pV4] [8] [q2017]
theorem envL20 : EnvOk Tryz.prog eL20 := envX10 (by
    intro e he
    simp only [List.mem_cons, List.not_mem_nil, or_false] at he
    rcases he with rfl | rfl | rfl
    · exact bSan_ok
    · exact pV0_ok
    · exact pV4_ok) (by
    intro e he
    simp only [List.mem_cons, List.not_mem_nil, or_false] at he
    rcases he with rfl
    exact q2017_ok)
noncomputable def cl20 : Cll := callE eL20 100000 300 5
noncomputable def rL20 (v : Nat) : List (Nat × Nat) := [(0, 18), (1, 66), (530, 18), (531, 66), (532, e8 (e8 v)), (533, e8 (e8 v)), (534, e8 (e8 (eShr v 8)))]
noncomputable def mL20 (v : Nat) : Mem := ⟨2, [runL (xL v 16917) (rL20 v), pgL]⟩
theorem w0_20 (i j v : Nat) : evCode k0 cl20 300 (fL i j v undefA undefA undefA undefA undefA undefA undefA undefA undefA) ⟨0, []⟩ = some (.normal, fL i j v undefA undefA undefA undefA undefA undefA undefA undefA ff, ⟨0, []⟩) := by kernel_rfl
theorem w1_20 (i j v : Nat) : evCode k1 cl20 300 (fL i j v undefA undefA undefA undefA undefA undefA undefA undefA ff) ⟨0, []⟩ = some (.normal, fL i j v undefA undefA undefA undefA undefA undefA tt undefA ff, ⟨0, []⟩) := by kernel_rfl
theorem w2_20 (i j v : Nat) : evCode k2 cl20 300 (fL i j v undefA undefA undefA undefA undefA undefA tt undefA ff) ⟨0, []⟩ = some (.normal, fL i j v (.ptr 0 0 0) undefA undefA undefA undefA undefA tt undefA ff, mL1) := by kernel_rfl
theorem w3_20 (i j v : Nat) : evCode k3 cl20 300 (fL i j v (.ptr 0 0 0) undefA undefA undefA undefA undefA tt undefA ff) mL1 = some (.normal, fL i j v (.ptr 0 0 0) (wd (e16 (Nat.mod i 5))) undefA undefA undefA undefA tt undefA ff, mL1) := by kernel_rfl
theorem w4_20 (i j v : Nat) (x : AV) : evCode k4 cl20 300 (fL i j v (.ptr 0 0 0) x undefA undefA undefA undefA tt undefA ff) mL1 = some (.normal, fL i j v (.ptr 0 0 0) x (wd (e16 (Nat.mod j 3))) undefA undefA undefA tt undefA ff, mL1) := by kernel_rfl
theorem w5_20 (i j v : Nat) : evCode k5 cl20 300 (fL i j v (.ptr 0 0 0) (wd 2) (wd 0) undefA undefA undefA tt undefA ff) mL1 = some (.normal, fL i j v (.ptr 0 0 0) (wd 2) (wd 0) (.ptr 1 0 0) undefA undefA tt undefA ff, mL20 v) := by kernel_rfl
theorem w6_20 (i j v : Nat) : evCode k6 cl20 300 (fL i j v (.ptr 0 0 0) (wd 2) (wd 0) (.ptr 1 0 0) undefA undefA tt undefA ff) (mL20 v) = some (.normal, fL i j v (.ptr 0 0 0) (wd 2) (wd 0) (.ptr 1 0 0) (wd 16917) undefA tt undefA ff, mL20 v) := by kernel_rfl
theorem w7_20 (i j v : Nat) : evCode k7R cl20 300 (fL i j v (.ptr 0 0 0) (wd 2) (wd 0) (.ptr 1 0 0) (wd 16917) undefA tt undefA ff) (mL20 v) =
    some (.normal, fL i j v (.ptr 0 0 0) (wd 2) (wd 0) (.ptr 1 0 0) (wd 16917) (.p (.bool (nt (allE (xL v 16917) (yL v 16917) (strW (rL20 v)))))) tt undefA ff, mL20 v) := by kernel_rfl
theorem w7c_20 (i j v : Nat) : evCode k7C cl20 300 (fL i j v (.ptr 0 0 0) (wd 2) (wd 0) (.ptr 1 0 0) (wd 16917) ff tt undefA ff) (mL20 v) = some (.normal, fL i j v (.ptr 0 0 0) (wd 2) (wd 0) (.ptr 1 0 0) (wd 16917) ff tt undefA ff, mL20 v) := by kernel_rfl
theorem w8_20 (i j v : Nat) : evCode k8 cl20 300 (fL i j v (.ptr 0 0 0) (wd 2) (wd 0) (.ptr 1 0 0) (wd 16917) ff tt undefA ff) (mL20 v) = some (.normal, fL i j v (.ptr 0 0 0) (wd 2) (wd 0) (.ptr 1 0 0) (wd 16917) ff tt (.p (.int .i64 (.ofNat 533))) ff, mL20 v) := by kernel_rfl
theorem w9a_20 (i j v : Nat) (K : RS → Out) : evIts k9a cl20 (fL i j v (.ptr 0 0 0) (wd 2) (wd 0) (.ptr 1 0 0) (wd 16917) ff tt (.p (.int .i64 (.ofNat 533))) ff) 0 ⟨[], [], [], mL20 v⟩ K =
    K ⟨[.p (.bool (beqI (.ofNat (e8 (e8 v))) (.ofNat (e8 v)))), .p (.bool (beqI (.ofNat (e8 (e8 v))) (.ofNat (e8 v)))), .p (.bool (beqI (.ofNat (e8 (e8 v))) (.ofNat (e8 v)))), .p (.int .u8 (.ofNat (e8 v))), wd v, .p (.int .u8 (.ofNat (e8 (e8 v)))), .p (.int .i64 (.ofNat 533)), .p (.str (strW (rL20 v))), .ptr 1 0 4, tt, tt], [], [], mL20 v⟩ := by kernel_rfl
theorem w9b_20 (i j v : Nat) : evIts k9b cl20 (fL i j v (.ptr 0 0 0) (wd 2) (wd 0) (.ptr 1 0 0) (wd 16917) ff tt (.p (.int .i64 (.ofNat 533))) ff) 0 ⟨[.p (.bool true), .p (.bool true), .p (.bool true), .p (.int .u8 (.ofNat (e8 v))), wd v, .p (.int .u8 (.ofNat (e8 (e8 v)))), .p (.int .i64 (.ofNat 533)), .p (.str (strW (rL20 v))), .ptr 1 0 4, tt, tt], [], [], mL20 v⟩ (finish [(11, 0)] (fL i j v (.ptr 0 0 0) (wd 2) (wd 0) (.ptr 1 0 0) (wd 16917) ff tt (.p (.int .i64 (.ofNat 533))) ff)) =
    some (.normal, fL i j v (.ptr 0 0 0) (wd 2) (wd 0) (.ptr 1 0 0) (wd 16917) ff tt (.p (.int .i64 (.ofNat 533))) (.p (.bool (beqI (.ofNat (e8 (e8 (eShr v 8)))) (.ofNat (e8 (eShr v 8)))))), mL20 v) := by kernel_rfl
theorem w9_20 (i j v : Nat) : evCode k9 cl20 300 (fL i j v (.ptr 0 0 0) (wd 2) (wd 0) (.ptr 1 0 0) (wd 16917) ff tt (.p (.int .i64 (.ofNat 533))) ff) (mL20 v) =
    some (.normal, fL i j v (.ptr 0 0 0) (wd 2) (wd 0) (.ptr 1 0 0) (wd 16917) ff tt (.p (.int .i64 (.ofNat 533))) tt, mL20 v) := by
  unfold k9
  rw [reg_two (w9a_20 i j v), lo_eq, w9b_20 i j v, lo_eq]
  rfl
theorem law5_20 (i j v : Nat) (hi : i % 5 = 2) (hj : j % 3 = 0) (hv : v < 65536) : evFun cl20 300 true cLaw5 [.p (.int .u8 (.ofNat i)), .p (.int .u8 (.ofNat j)), .p (.int .u16 (.ofNat v))] ⟨0, []⟩ = some (.ret (.p (.bool true)), ⟨0, []⟩) := by
  have ea : e16 (Nat.mod i 5) = 2 := by
    show i % 5 % 65536 = _
    rw [hi]
  have eb : e16 (Nat.mod j 3) = 0 := by
    show j % 3 % 65536 = _
    rw [hj]
  have h7 := w7_20 i j v
  rw [allL_true hv] at h7
  have h7 : evCode k7 cl20 300 (fL i j v (.ptr 0 0 0) (wd 2) (wd 0) (.ptr 1 0 0) (wd 16917) undefA tt undefA ff) (mL20 v) = some (.normal, fL i j v (.ptr 0 0 0) (wd 2) (wd 0) (.ptr 1 0 0) (wd 16917) ff tt undefA ff, mL20 v) := (seq_n h7).trans (w7c_20 i j v)
  have h3 := w3_20 i j v
  rw [ea] at h3
  have h4 := w4_20 i j v (wd 2)
  rw [eb] at h4
  show (ob (evCode (.seq k0 (.seq k1 (.seq k2 (.seq k3 (.seq k4 (.seq k5 (.seq k6 (.seq k7 (.seq k8 (.seq k9 k10)))))))))) cl20 300 (fL i j v undefA undefA undefA undefA undefA undefA undefA undefA undefA) ⟨0, []⟩) fun r => _) = _
  rw [seq_n (w0_20 i j v), seq_n (w1_20 i j v), seq_n (w2_20 i j v), seq_n h3, seq_n h4, seq_n (w5_20 i j v), seq_n (w6_20 i j v), seq_n h7, seq_n (w8_20 i j v), seq_n (w9_20 i j v)]
  kernel_rfl
theorem run5_20 (i j v : Nat) (hi : i % 5 = 2) (hj : j % 3 = 0) (hv : v < 65536) : RunOk Tryz.prog 5 [.p (.int .u8 (.ofNat i)), .p (.int .u8 (.ofNat j)), .p (.int .u16 (.ofNat v))] ⟨0, []⟩ (.ret (.p (.bool true))) ⟨0, []⟩ :=
  evFun_ok (by kernel_rfl) (callE_ok (by kernel_rfl) envL20 300 5) Tryz.func5 cLaw5_eq (law5_20 i j v hi hj hv)
noncomputable def eL21 : Env := EX10 [6, 7, 13] [bSan, pV0, pV4] [8] [q2117]
theorem envL21 : EnvOk Tryz.prog eL21 := envX10 (by
    intro e he
    simp only [List.mem_cons, List.not_mem_nil, or_false] at he
    rcases he with rfl | rfl | rfl
    · exact bSan_ok
    · exact pV0_ok
    · exact pV4_ok) (by
    intro e he
    simp only [List.mem_cons, List.not_mem_nil, or_false] at he
    rcases he with rfl
    exact q2117_ok)
noncomputable def cl21 : Cll := callE eL21 100000 300 5
noncomputable def rL21 (v : Nat) : List (Nat × Nat) := [(0, 18), (1, 66), (530, 18), (531, 66), (532, e8 (e8 v)), (535, e8 (e8 v)), (536, e8 (e8 (eShr v 8)))]
noncomputable def mL21 (v : Nat) : Mem := ⟨2, [runL (xL v 16919) (rL21 v), pgL]⟩
theorem w0_21 (i j v : Nat) : evCode k0 cl21 300 (fL i j v undefA undefA undefA undefA undefA undefA undefA undefA undefA) ⟨0, []⟩ = some (.normal, fL i j v undefA undefA undefA undefA undefA undefA undefA undefA ff, ⟨0, []⟩) := by kernel_rfl
theorem w1_21 (i j v : Nat) : evCode k1 cl21 300 (fL i j v undefA undefA undefA undefA undefA undefA undefA undefA ff) ⟨0, []⟩ = some (.normal, fL i j v undefA undefA undefA undefA undefA undefA tt undefA ff, ⟨0, []⟩) := by kernel_rfl
theorem w2_21 (i j v : Nat) : evCode k2 cl21 300 (fL i j v undefA undefA undefA undefA undefA undefA tt undefA ff) ⟨0, []⟩ = some (.normal, fL i j v (.ptr 0 0 0) undefA undefA undefA undefA undefA tt undefA ff, mL1) := by kernel_rfl
theorem w3_21 (i j v : Nat) : evCode k3 cl21 300 (fL i j v (.ptr 0 0 0) undefA undefA undefA undefA undefA tt undefA ff) mL1 = some (.normal, fL i j v (.ptr 0 0 0) (wd (e16 (Nat.mod i 5))) undefA undefA undefA undefA tt undefA ff, mL1) := by kernel_rfl
theorem w4_21 (i j v : Nat) (x : AV) : evCode k4 cl21 300 (fL i j v (.ptr 0 0 0) x undefA undefA undefA undefA tt undefA ff) mL1 = some (.normal, fL i j v (.ptr 0 0 0) x (wd (e16 (Nat.mod j 3))) undefA undefA undefA tt undefA ff, mL1) := by kernel_rfl
theorem w5_21 (i j v : Nat) : evCode k5 cl21 300 (fL i j v (.ptr 0 0 0) (wd 2) (wd 1) undefA undefA undefA tt undefA ff) mL1 = some (.normal, fL i j v (.ptr 0 0 0) (wd 2) (wd 1) (.ptr 1 0 0) undefA undefA tt undefA ff, mL21 v) := by kernel_rfl
theorem w6_21 (i j v : Nat) : evCode k6 cl21 300 (fL i j v (.ptr 0 0 0) (wd 2) (wd 1) (.ptr 1 0 0) undefA undefA tt undefA ff) (mL21 v) = some (.normal, fL i j v (.ptr 0 0 0) (wd 2) (wd 1) (.ptr 1 0 0) (wd 16919) undefA tt undefA ff, mL21 v) := by kernel_rfl
theorem w7_21 (i j v : Nat) : evCode k7R cl21 300 (fL i j v (.ptr 0 0 0) (wd 2) (wd 1) (.ptr 1 0 0) (wd 16919) undefA tt undefA ff) (mL21 v) =
    some (.normal, fL i j v (.ptr 0 0 0) (wd 2) (wd 1) (.ptr 1 0 0) (wd 16919) (.p (.bool (nt (allE (xL v 16919) (yL v 16919) (strW (rL21 v)))))) tt undefA ff, mL21 v) := by kernel_rfl
theorem w7c_21 (i j v : Nat) : evCode k7C cl21 300 (fL i j v (.ptr 0 0 0) (wd 2) (wd 1) (.ptr 1 0 0) (wd 16919) ff tt undefA ff) (mL21 v) = some (.normal, fL i j v (.ptr 0 0 0) (wd 2) (wd 1) (.ptr 1 0 0) (wd 16919) ff tt undefA ff, mL21 v) := by kernel_rfl
theorem w8_21 (i j v : Nat) : evCode k8 cl21 300 (fL i j v (.ptr 0 0 0) (wd 2) (wd 1) (.ptr 1 0 0) (wd 16919) ff tt undefA ff) (mL21 v) = some (.normal, fL i j v (.ptr 0 0 0) (wd 2) (wd 1) (.ptr 1 0 0) (wd 16919) ff tt (.p (.int .i64 (.ofNat 535))) ff, mL21 v) := by kernel_rfl
theorem w9a_21 (i j v : Nat) (K : RS → Out) : evIts k9a cl21 (fL i j v (.ptr 0 0 0) (wd 2) (wd 1) (.ptr 1 0 0) (wd 16919) ff tt (.p (.int .i64 (.ofNat 535))) ff) 0 ⟨[], [], [], mL21 v⟩ K =
    K ⟨[.p (.bool (beqI (.ofNat (e8 (e8 v))) (.ofNat (e8 v)))), .p (.bool (beqI (.ofNat (e8 (e8 v))) (.ofNat (e8 v)))), .p (.bool (beqI (.ofNat (e8 (e8 v))) (.ofNat (e8 v)))), .p (.int .u8 (.ofNat (e8 v))), wd v, .p (.int .u8 (.ofNat (e8 (e8 v)))), .p (.int .i64 (.ofNat 535)), .p (.str (strW (rL21 v))), .ptr 1 0 4, tt, tt], [], [], mL21 v⟩ := by kernel_rfl
theorem w9b_21 (i j v : Nat) : evIts k9b cl21 (fL i j v (.ptr 0 0 0) (wd 2) (wd 1) (.ptr 1 0 0) (wd 16919) ff tt (.p (.int .i64 (.ofNat 535))) ff) 0 ⟨[.p (.bool true), .p (.bool true), .p (.bool true), .p (.int .u8 (.ofNat (e8 v))), wd v, .p (.int .u8 (.ofNat (e8 (e8 v)))), .p (.int .i64 (.ofNat 535)), .p (.str (strW (rL21 v))), .ptr 1 0 4, tt, tt], [], [], mL21 v⟩ (finish [(11, 0)] (fL i j v (.ptr 0 0 0) (wd 2) (wd 1) (.ptr 1 0 0) (wd 16919) ff tt (.p (.int .i64 (.ofNat 535))) ff)) =
    some (.normal, fL i j v (.ptr 0 0 0) (wd 2) (wd 1) (.ptr 1 0 0) (wd 16919) ff tt (.p (.int .i64 (.ofNat 535))) (.p (.bool (beqI (.ofNat (e8 (e8 (eShr v 8)))) (.ofNat (e8 (eShr v 8)))))), mL21 v) := by kernel_rfl
theorem w9_21 (i j v : Nat) : evCode k9 cl21 300 (fL i j v (.ptr 0 0 0) (wd 2) (wd 1) (.ptr 1 0 0) (wd 16919) ff tt (.p (.int .i64 (.ofNat 535))) ff) (mL21 v) =
    some (.normal, fL i j v (.ptr 0 0 0) (wd 2) (wd 1) (.ptr 1 0 0) (wd 16919) ff tt (.p (.int .i64 (.ofNat 535))) tt, mL21 v) := by
  unfold k9
  rw [reg_two (w9a_21 i j v), lo_eq, w9b_21 i j v, lo_eq]
  rfl
theorem law5_21 (i j v : Nat) (hi : i % 5 = 2) (hj : j % 3 = 1) (hv : v < 65536) : evFun cl21 300 true cLaw5 [.p (.int .u8 (.ofNat i)), .p (.int .u8 (.ofNat j)), .p (.int .u16 (.ofNat v))] ⟨0, []⟩ = some (.ret (.p (.bool true)), ⟨0, []⟩) := by
  have ea : e16 (Nat.mod i 5) = 2 := by
    show i % 5 % 65536 = _
    rw [hi]
  have eb : e16 (Nat.mod j 3) = 1 := by
    show j % 3 % 65536 = _
    rw [hj]
  have h7 := w7_21 i j v
  rw [allL_true hv] at h7
  have h7 : evCode k7 cl21 300 (fL i j v (.ptr 0 0 0) (wd 2) (wd 1) (.ptr 1 0 0) (wd 16919) undefA tt undefA ff) (mL21 v) = some (.normal, fL i j v (.ptr 0 0 0) (wd 2) (wd 1) (.ptr 1 0 0) (wd 16919) ff tt undefA ff, mL21 v) := (seq_n h7).trans (w7c_21 i j v)
  have h3 := w3_21 i j v
  rw [ea] at h3
  have h4 := w4_21 i j v (wd 2)
  rw [eb] at h4
  show (ob (evCode (.seq k0 (.seq k1 (.seq k2 (.seq k3 (.seq k4 (.seq k5 (.seq k6 (.seq k7 (.seq k8 (.seq k9 k10)))))))))) cl21 300 (fL i j v undefA undefA undefA undefA undefA undefA undefA undefA undefA) ⟨0, []⟩) fun r => _) = _
  rw [seq_n (w0_21 i j v), seq_n (w1_21 i j v), seq_n (w2_21 i j v), seq_n h3, seq_n h4, seq_n (w5_21 i j v), seq_n (w6_21 i j v), seq_n h7, seq_n (w8_21 i j v), seq_n (w9_21 i j v)]
  kernel_rfl
theorem run5_21 (i j v : Nat) (hi : i % 5 = 2) (hj : j % 3 = 1) (hv : v < 65536) : RunOk Tryz.prog 5 [.p (.int .u8 (.ofNat i)), .p (.int .u8 (.ofNat j)), .p (.int .u16 (.ofNat v))] ⟨0, []⟩ (.ret (.p (.bool true))) ⟨0, []⟩ :=
  evFun_ok (by kernel_rfl) (callE_ok (by kernel_rfl) envL21 300 5) Tryz.func5 cLaw5_eq (law5_21 i j v hi hj hv)
noncomputable def eL22 : Env := EX10 [6, 7, 13] [bSan, pV0, pV4] [8] [q2217]
theorem envL22 : EnvOk Tryz.prog eL22 := envX10 (by
    intro e he
    simp only [List.mem_cons, List.not_mem_nil, or_false] at he
    rcases he with rfl | rfl | rfl
    · exact bSan_ok
    · exact pV0_ok
    · exact pV4_ok) (by
    intro e he
    simp only [List.mem_cons, List.not_mem_nil, or_false] at he
    rcases he with rfl
    exact q2217_ok)
noncomputable def cl22 : Cll := callE eL22 100000 300 5
noncomputable def rL22 (v : Nat) : List (Nat × Nat) := [(0, 18), (1, 66), (530, 18), (531, 66), (532, e8 (e8 v)), (537, e8 (e8 v)), (538, e8 (e8 (eShr v 8)))]
noncomputable def mL22 (v : Nat) : Mem := ⟨2, [runL (xL v 16921) (rL22 v), pgL]⟩
theorem w0_22 (i j v : Nat) : evCode k0 cl22 300 (fL i j v undefA undefA undefA undefA undefA undefA undefA undefA undefA) ⟨0, []⟩ = some (.normal, fL i j v undefA undefA undefA undefA undefA undefA undefA undefA ff, ⟨0, []⟩) := by kernel_rfl
theorem w1_22 (i j v : Nat) : evCode k1 cl22 300 (fL i j v undefA undefA undefA undefA undefA undefA undefA undefA ff) ⟨0, []⟩ = some (.normal, fL i j v undefA undefA undefA undefA undefA undefA tt undefA ff, ⟨0, []⟩) := by kernel_rfl
theorem w2_22 (i j v : Nat) : evCode k2 cl22 300 (fL i j v undefA undefA undefA undefA undefA undefA tt undefA ff) ⟨0, []⟩ = some (.normal, fL i j v (.ptr 0 0 0) undefA undefA undefA undefA undefA tt undefA ff, mL1) := by kernel_rfl
theorem w3_22 (i j v : Nat) : evCode k3 cl22 300 (fL i j v (.ptr 0 0 0) undefA undefA undefA undefA undefA tt undefA ff) mL1 = some (.normal, fL i j v (.ptr 0 0 0) (wd (e16 (Nat.mod i 5))) undefA undefA undefA undefA tt undefA ff, mL1) := by kernel_rfl
theorem w4_22 (i j v : Nat) (x : AV) : evCode k4 cl22 300 (fL i j v (.ptr 0 0 0) x undefA undefA undefA undefA tt undefA ff) mL1 = some (.normal, fL i j v (.ptr 0 0 0) x (wd (e16 (Nat.mod j 3))) undefA undefA undefA tt undefA ff, mL1) := by kernel_rfl
theorem w5_22 (i j v : Nat) : evCode k5 cl22 300 (fL i j v (.ptr 0 0 0) (wd 2) (wd 2) undefA undefA undefA tt undefA ff) mL1 = some (.normal, fL i j v (.ptr 0 0 0) (wd 2) (wd 2) (.ptr 1 0 0) undefA undefA tt undefA ff, mL22 v) := by kernel_rfl
theorem w6_22 (i j v : Nat) : evCode k6 cl22 300 (fL i j v (.ptr 0 0 0) (wd 2) (wd 2) (.ptr 1 0 0) undefA undefA tt undefA ff) (mL22 v) = some (.normal, fL i j v (.ptr 0 0 0) (wd 2) (wd 2) (.ptr 1 0 0) (wd 16921) undefA tt undefA ff, mL22 v) := by kernel_rfl
theorem w7_22 (i j v : Nat) : evCode k7R cl22 300 (fL i j v (.ptr 0 0 0) (wd 2) (wd 2) (.ptr 1 0 0) (wd 16921) undefA tt undefA ff) (mL22 v) =
    some (.normal, fL i j v (.ptr 0 0 0) (wd 2) (wd 2) (.ptr 1 0 0) (wd 16921) (.p (.bool (nt (allE (xL v 16921) (yL v 16921) (strW (rL22 v)))))) tt undefA ff, mL22 v) := by kernel_rfl
theorem w7c_22 (i j v : Nat) : evCode k7C cl22 300 (fL i j v (.ptr 0 0 0) (wd 2) (wd 2) (.ptr 1 0 0) (wd 16921) ff tt undefA ff) (mL22 v) = some (.normal, fL i j v (.ptr 0 0 0) (wd 2) (wd 2) (.ptr 1 0 0) (wd 16921) ff tt undefA ff, mL22 v) := by kernel_rfl
theorem w8_22 (i j v : Nat) : evCode k8 cl22 300 (fL i j v (.ptr 0 0 0) (wd 2) (wd 2) (.ptr 1 0 0) (wd 16921) ff tt undefA ff) (mL22 v) = some (.normal, fL i j v (.ptr 0 0 0) (wd 2) (wd 2) (.ptr 1 0 0) (wd 16921) ff tt (.p (.int .i64 (.ofNat 537))) ff, mL22 v) := by kernel_rfl
theorem w9a_22 (i j v : Nat) (K : RS → Out) : evIts k9a cl22 (fL i j v (.ptr 0 0 0) (wd 2) (wd 2) (.ptr 1 0 0) (wd 16921) ff tt (.p (.int .i64 (.ofNat 537))) ff) 0 ⟨[], [], [], mL22 v⟩ K =
    K ⟨[.p (.bool (beqI (.ofNat (e8 (e8 v))) (.ofNat (e8 v)))), .p (.bool (beqI (.ofNat (e8 (e8 v))) (.ofNat (e8 v)))), .p (.bool (beqI (.ofNat (e8 (e8 v))) (.ofNat (e8 v)))), .p (.int .u8 (.ofNat (e8 v))), wd v, .p (.int .u8 (.ofNat (e8 (e8 v)))), .p (.int .i64 (.ofNat 537)), .p (.str (strW (rL22 v))), .ptr 1 0 4, tt, tt], [], [], mL22 v⟩ := by kernel_rfl
theorem w9b_22 (i j v : Nat) : evIts k9b cl22 (fL i j v (.ptr 0 0 0) (wd 2) (wd 2) (.ptr 1 0 0) (wd 16921) ff tt (.p (.int .i64 (.ofNat 537))) ff) 0 ⟨[.p (.bool true), .p (.bool true), .p (.bool true), .p (.int .u8 (.ofNat (e8 v))), wd v, .p (.int .u8 (.ofNat (e8 (e8 v)))), .p (.int .i64 (.ofNat 537)), .p (.str (strW (rL22 v))), .ptr 1 0 4, tt, tt], [], [], mL22 v⟩ (finish [(11, 0)] (fL i j v (.ptr 0 0 0) (wd 2) (wd 2) (.ptr 1 0 0) (wd 16921) ff tt (.p (.int .i64 (.ofNat 537))) ff)) =
    some (.normal, fL i j v (.ptr 0 0 0) (wd 2) (wd 2) (.ptr 1 0 0) (wd 16921) ff tt (.p (.int .i64 (.ofNat 537))) (.p (.bool (beqI (.ofNat (e8 (e8 (eShr v 8)))) (.ofNat (e8 (eShr v 8)))))), mL22 v) := by kernel_rfl
theorem w9_22 (i j v : Nat) : evCode k9 cl22 300 (fL i j v (.ptr 0 0 0) (wd 2) (wd 2) (.ptr 1 0 0) (wd 16921) ff tt (.p (.int .i64 (.ofNat 537))) ff) (mL22 v) =
    some (.normal, fL i j v (.ptr 0 0 0) (wd 2) (wd 2) (.ptr 1 0 0) (wd 16921) ff tt (.p (.int .i64 (.ofNat 537))) tt, mL22 v) := by
  unfold k9
  rw [reg_two (w9a_22 i j v), lo_eq, w9b_22 i j v, lo_eq]
  rfl
theorem law5_22 (i j v : Nat) (hi : i % 5 = 2) (hj : j % 3 = 2) (hv : v < 65536) : evFun cl22 300 true cLaw5 [.p (.int .u8 (.ofNat i)), .p (.int .u8 (.ofNat j)), .p (.int .u16 (.ofNat v))] ⟨0, []⟩ = some (.ret (.p (.bool true)), ⟨0, []⟩) := by
  have ea : e16 (Nat.mod i 5) = 2 := by
    show i % 5 % 65536 = _
    rw [hi]
  have eb : e16 (Nat.mod j 3) = 2 := by
    show j % 3 % 65536 = _
    rw [hj]
  have h7 := w7_22 i j v
  rw [allL_true hv] at h7
  have h7 : evCode k7 cl22 300 (fL i j v (.ptr 0 0 0) (wd 2) (wd 2) (.ptr 1 0 0) (wd 16921) undefA tt undefA ff) (mL22 v) = some (.normal, fL i j v (.ptr 0 0 0) (wd 2) (wd 2) (.ptr 1 0 0) (wd 16921) ff tt undefA ff, mL22 v) := (seq_n h7).trans (w7c_22 i j v)
  have h3 := w3_22 i j v
  rw [ea] at h3
  have h4 := w4_22 i j v (wd 2)
  rw [eb] at h4
  show (ob (evCode (.seq k0 (.seq k1 (.seq k2 (.seq k3 (.seq k4 (.seq k5 (.seq k6 (.seq k7 (.seq k8 (.seq k9 k10)))))))))) cl22 300 (fL i j v undefA undefA undefA undefA undefA undefA undefA undefA undefA) ⟨0, []⟩) fun r => _) = _
  rw [seq_n (w0_22 i j v), seq_n (w1_22 i j v), seq_n (w2_22 i j v), seq_n h3, seq_n h4, seq_n (w5_22 i j v), seq_n (w6_22 i j v), seq_n h7, seq_n (w8_22 i j v), seq_n (w9_22 i j v)]
  kernel_rfl
theorem run5_22 (i j v : Nat) (hi : i % 5 = 2) (hj : j % 3 = 2) (hv : v < 65536) : RunOk Tryz.prog 5 [.p (.int .u8 (.ofNat i)), .p (.int .u8 (.ofNat j)), .p (.int .u16 (.ofNat v))] ⟨0, []⟩ (.ret (.p (.bool true))) ⟨0, []⟩ :=
  evFun_ok (by kernel_rfl) (callE_ok (by kernel_rfl) envL22 300 5) Tryz.func5 cLaw5_eq (law5_22 i j v hi hj hv)
end Go.Ab
namespace Go.Ab
set_option maxRecDepth 30000
set_option linter.unusedSimpArgs false
open Go.Proofs Go.RowKit
set_option linter.unusedVariables false
noncomputable def eL30 : Env := EX10 [6, 7, 13] [bSan, pV0, pV4] [8] [q3017]
theorem envL30 : EnvOk Tryz.prog eL30 := envX10 (by
    intro e he
    simp only [List.mem_cons, List.not_mem_nil, or_false] at he
    rcases he with rfl | rfl | rfl
    · exact bSan_ok
    · exact pV0_ok
    · exact pV4_ok) (by
    intro e he
    simp only [List.mem_cons, List.not_mem_nil, or_false] at he
    rcases he with rfl
    exact q3017_ok)
noncomputable def cl30 : Cll := callE eL30 100000 300 5
noncomputable def rL30 (v : Nat) : List (Nat × Nat) := [(0, 27), (1, 66), (539, 27), (540, 66), (541, e8 (e8 v)), (542, e8 (e8 v)), (543, e8 (e8 (eShr v 8)))]
noncomputable def mL30 (v : Nat) : Mem := ⟨2, [runL (xL v 16926) (rL30 v), pgL]⟩
theorem w0_30 (i j v : Nat) : evCode k0 cl30 300 (fL i j v undefA undefA undefA undefA undefA undefA undefA undefA undefA) ⟨0, []⟩ = some (.normal, fL i j v undefA undefA undefA undefA undefA undefA undefA undefA ff, ⟨0, []⟩) := by kernel_rfl
theorem w1_30 (i j v : Nat) : evCode k1 cl30 300 (fL i j v undefA undefA undefA undefA undefA undefA undefA undefA ff) ⟨0, []⟩ = some (.normal, fL i j v undefA undefA undefA undefA undefA undefA tt undefA ff, ⟨0, []⟩) := by kernel_rfl
theorem w2_30 (i j v : Nat) : evCode k2 cl30 300 (fL i j v undefA undefA undefA undefA undefA undefA tt undefA ff) ⟨0, []⟩ = some (.normal, fL i j v (.ptr 0 0 0) undefA undefA undefA undefA undefA tt undefA ff, mL1) := by kernel_rfl
theorem w3_30 (i j v : Nat) : evCode k3 cl30 300 (fL i j v (.ptr 0 0 0) undefA undefA undefA undefA undefA tt undefA ff) mL1 = some (.normal, fL i j v (.ptr 0 0 0) (wd (e16 (Nat.mod i 5))) undefA undefA undefA undefA tt undefA ff, mL1) := by kernel_rfl
theorem w4_30 (i j v : Nat) (x : AV) : evCode k4 cl30 300 (fL i j v (.ptr 0 0 0) x undefA undefA undefA undefA tt undefA ff) mL1 = some (.normal, fL i j v (.ptr 0 0 0) x (wd (e16 (Nat.mod j 3))) undefA undefA undefA tt undefA ff, mL1) := by kernel_rfl
theorem w5_30 (i j v : Nat) : evCode k5 cl30 300 (fL i j v (.ptr 0 0 0) (wd 3) (wd 0) undefA undefA undefA tt undefA ff) mL1 = some (.normal, fL i j v (.ptr 0 0 0) (wd 3) (wd 0) (.ptr 1 0 0) undefA undefA tt undefA ff, mL30 v) := by kernel_rfl
theorem w6_30 (i j v : Nat) : evCode k6 cl30 300 (fL i j v (.ptr 0 0 0) (wd 3) (wd 0) (.ptr 1 0 0) undefA undefA tt undefA ff) (mL30 v) = some (.normal, fL i j v (.ptr 0 0 0) (wd 3) (wd 0) (.ptr 1 0 0) (wd 16926) undefA tt undefA ff, mL30 v) := by kernel_rfl
theorem w7_30 (i j v : Nat) : evCode k7R cl30 300 (fL i j v (.ptr 0 0 0) (wd 3) (wd 0) (.ptr 1 0 0) (wd 16926) undefA tt undefA ff) (mL30 v) =
    some (.normal, fL i j v (.ptr 0 0 0) (wd 3) (wd 0) (.ptr 1 0 0) (wd 16926) (.p (.bool (nt (allE (xL v 16926) (yL v 16926) (strW (rL30 v)))))) tt undefA ff, mL30 v) := by kernel_rfl
theorem w7c_30 (i j v : Nat) : evCode k7C cl30 300 (fL i j v (.ptr 0 0 0) (wd 3) (wd 0) (.ptr 1 0 0) (wd 16926) ff tt undefA ff) (mL30 v) = some (.normal, fL i j v (.ptr 0 0 0) (wd 3) (wd 0) (.ptr 1 0 0) (wd 16926) ff tt undefA ff, mL30 v) := by kernel_rfl
theorem w8_30 (i j v : Nat) : evCode k8 cl30 300 (fL i j v (.ptr 0 0 0) (wd 3) (wd 0) (.ptr 1 0 0) (wd 16926) ff tt undefA ff) (mL30 v) = some (.normal, fL i j v (.ptr 0 0 0) (wd 3) (wd 0) (.ptr 1 0 0) (wd 16926) ff tt (.p (.int .i64 (.ofNat 542))) ff, mL30 v) := by kernel_rfl
theorem w9a_30 (i j v : Nat) (K : RS → Out) : evIts k9a cl30 (fL i j v (.ptr 0 0 0) (wd 3) (wd 0) (.ptr 1 0 0) (wd 16926) ff tt (.p (.int .i64 (.ofNat 542))) ff) 0 ⟨[], [], [], mL30 v⟩ K =
    K ⟨[.p (.bool (beqI (.ofNat (e8 (e8 v))) (.ofNat (e8 v)))), .p (.bool (beqI (.ofNat (e8 (e8 v))) (.ofNat (e8 v)))), .p (.bool (beqI (.ofNat (e8 (e8 v))) (.ofNat (e8 v)))), .p (.int .u8 (.ofNat (e8 v))), wd v, .p (.int .u8 (.ofNat (e8 (e8 v)))), .p (.int .i64 (.ofNat 542)), .p (.str (strW (rL30 v))), .ptr 1 0 4, tt, tt], [], [], mL30 v⟩ := by kernel_rfl
theorem w9b_30 (i j v : Nat) : evIts k9b cl30 (fL i j v (.ptr 0 0 0) (wd 3) (wd 0) (.ptr 1 0 0) (wd 16926) ff tt (.p (.int .i64 (.ofNat 542))) ff) 0 ⟨[.p (.bool true), .p (.bool true), .p (.bool true), .p (.int .u8 (.ofNat (e8 v))), wd v, .p (.int .u8 (.ofNat (e8 (e8 v)))), .p (.int .i64 (.ofNat 542)), .p (.str (strW (rL30 v))), .ptr 1 0 4, tt, tt], [], [], mL30 v⟩ (finish [(11, 0)] (fL i j v (.ptr 0 0 0) (wd 3) (wd 0) (.ptr 1 0 0) (wd 16926) ff tt (.p (.int .i64 (.ofNat 542))) ff)) =
    some (.normal, fL i j v (.ptr 0 0 0) (wd 3) (wd 0) (.ptr 1 0 0) (wd 16926) ff tt (.p (.int .i64 (.ofNat 542))) (.p (.bool (beqI (.ofNat (e8 (e8 (eShr v 8)))) (.ofNat (e8 (eShr v 8)))))), mL30 v) := by kernel_rfl
theorem w9_30 (i j v : Nat) : evCode k9 cl30 300 (fL i j v (.ptr 0 0 0) (wd 3) (wd 0) (.ptr 1 0 0) (wd 16926) ff tt (.p (.int .i64 (.ofNat 542))) ff) (mL30 v) =
    some (.normal, fL i j v (.ptr 0 0 0) (wd 3) (wd 0) (.ptr 1 0 0) (wd 16926) ff tt (.p (.int .i64 (.ofNat 542))) tt, mL30 v) := by
  unfold k9
  rw [reg_two (w9a_30 i j v), lo_eq, w9b_30 i j v, lo_eq]
  rfl
theorem law5_30 (i j v : Nat) (hi : i % 5 = 3) (hj : j % 3 = 0) (hv : v < 65536) : evFun cl30 300 true cLaw5 [.p (.int .u8 (.ofNat i)), .p (.int .u8 (.ofNat j)), .p (.int .u16 (.ofNat v))] ⟨0, []⟩ = some (.ret (.p (.bool true)), ⟨0, []⟩) := by
  have ea : e16 (Nat.mod i 5) = 3 := by
    show i % 5 % 65536 = _
    rw [hi]
  have eb : e16 (Nat.mod j 3) = 0 := by
    show j % 3 % 65536 = _
    rw [hj]
  have h7 := w7_30 i j v
  rw [allL_true hv] at h7
  have h7 : evCode k7 cl30 300 (fL i j v (.ptr 0 0 0) (wd 3) (wd 0) (.ptr 1 0 0) (wd 16926) undefA tt undefA ff) (mL30 v) = some (.normal, fL i j v (.ptr 0 0 0) (wd 3) (wd 0) (.ptr 1 0 0) (wd 16926) ff tt undefA ff, mL30 v) := (seq_n h7).trans (w7c_30 i j v)
  have h3 := w3_30 i j v
  rw [ea] at h3
  have h4 := w4_30 i j v (wd 3)
  rw [eb] at h4
  show (ob (evCode (.seq k0 (.seq k1 (.seq k2 (.seq k3 (.seq k4 (.seq k5 (.seq k6 (.seq k7 (.seq k8 (.seq k9 k10)))))))))) cl30 300 (fL i j v undefA undefA undefA undefA undefA undefA undefA undefA undefA) ⟨0, []⟩) fun r => _) = _
  rw [seq_n (w0_30 i j v), seq_n (w1_30 i j v), seq_n (w2_30 i j v), seq_n h3, seq_n h4, seq_n (w5_30 i j v), seq_n (w6_30 i j v), seq_n h7, seq_n (w8_30 i j v), seq_n (w9_30 i j v)]
  kernel_rfl
theorem run5_30 (i j v : Nat) (hi : i % 5 = 3) (hj : j % 3 = 0) (hv : v < 65536) : RunOk Tryz.prog 5 [.p (.int .u8 (.ofNat i)), .p (.int .u8 (.ofNat j)), .p (.int .u16 (.ofNat v))] ⟨0, []⟩ (.ret (.p (.bool true))) ⟨0, []⟩ :=
  evFun_ok (by kernel_rfl) (callE_ok (by kernel_rfl) envL30 300 5) Tryz.func5 cLaw5_eq (law5_30 i j v hi hj hv)
noncomputable def eL31 : Env := EX10 [6, 7, 13] [bSan, pV0, pV4] [8] [q3117]
theorem envL31 : EnvOk Tryz.prog eL31 := envX10 (by
    intro e he
    simp only [List.mem_cons, List.not_mem_nil, or_false] at he
    rcases he with rfl | rfl | rfl
    · exact bSan_ok
    · exact pV0_ok
    · exact pV4_ok) (by
    intro e he
    simp only [List.mem_cons, List.not_mem_nil, or_false] at he
    rcases he with rfl
    exact q3117_ok)
noncomputable def cl31 : Cll := callE eL31 100000 300 5
noncomputable def rL31 (v : Nat) : List (Nat × Nat) := [(0, 27), (1, 66), (539, 27), (540, 66), (541, e8 (e8 v)), (544, e8 (e8 v)), (545, e8 (e8 (eShr v 8)))]
noncomputable def mL31 (v : Nat) : Mem := ⟨2, [runL (xL v 16928) (rL31 v), pgL]⟩
theorem w0_31 (i j v : Nat) : evCode k0 cl31 300 (fL i j v undefA undefA undefA undefA undefA undefA undefA undefA undefA) ⟨0, []⟩ = some (.normal, fL i j v undefA undefA undefA undefA undefA undefA undefA undefA ff, ⟨0, []⟩) := by kernel_rfl
theorem w1_31 (i j v : Nat) : evCode k1 cl31 300 (fL i j v undefA undefA undefA undefA undefA undefA undefA undefA ff) ⟨0, []⟩ = some (.normal, fL i j v undefA undefA undefA undefA undefA undefA tt undefA ff, ⟨0, []⟩) := by kernel_rfl
theorem w2_31 (i j v : Nat) : evCode k2 cl31 300 (fL i j v undefA undefA undefA undefA undefA undefA tt undefA ff) ⟨0, []⟩ = some (.normal, fL i j v (.ptr 0 0 0) undefA undefA undefA undefA undefA tt undefA ff, mL1) := by kernel_rfl
theorem w3_31 (i j v : Nat) : evCode k3 cl31 300 (fL i j v (.ptr 0 0 0) undefA undefA undefA undefA undefA tt undefA ff) mL1 = some (.normal, fL i j v (.ptr 0 0 0) (wd (e16 (Nat.mod i 5))) undefA undefA undefA undefA tt undefA ff, mL1) := by kernel_rfl
theorem w4_31 (i j v : Nat) (x : AV) : evCode k4 cl31 300 (fL i j v (.ptr 0 0 0) x undefA undefA undefA undefA tt undefA ff) mL1 = some (.normal, fL i j v (.ptr 0 0 0) x (wd (e16 (Nat.mod j 3))) undefA undefA undefA tt undefA ff, mL1) := by kernel_rfl
theorem w5_31 (i j v : Nat) : evCode k5 cl31 300 (fL i j v (.ptr 0 0 0) (wd 3) (wd 1) undefA undefA undefA tt undefA ff) mL1 = some (.normal, fL i j v (.ptr 0 0 0) (wd 3) (wd 1) (.ptr 1 0 0) undefA undefA tt undefA ff, mL31 v) := by kernel_rfl
theorem w6_31 (i j v : Nat) : evCode k6 cl31 300 (fL i j v (.ptr 0 0 0) (wd 3) (wd 1) (.ptr 1 0 0) undefA undefA tt undefA ff) (mL31 v) = some (.normal, fL i j v (.ptr 0 0 0) (wd 3) (wd 1) (.ptr 1 0 0) (wd 16928) undefA tt undefA ff, mL31 v) := by kernel_rfl
theorem w7_31 (i j v : Nat) : evCode k7R cl31 300 (fL i j v (.ptr 0 0 0) (wd 3) (wd 1) (.ptr 1 0 0) (wd 16928) undefA tt undefA ff) (mL31 v) =
    some (.normal, fL i j v (.ptr 0 0 0) (wd 3) (wd 1) (.ptr 1 0 0) (wd 16928) (.p (.bool (nt (allE (xL v 16928) (yL v 16928) (strW (rL31 v)))))) tt undefA ff, mL31 v) := by kernel_rfl
theorem w7c_31 (i j v : Nat) : evCode k7C cl31 300 (fL i j v (.ptr 0 0 0) (wd 3) (wd 1) (.ptr 1 0 0) (wd 16928) ff tt undefA ff) (mL31 v) = some (.normal, fL i j v (.ptr 0 0 0) (wd 3) (wd 1) (.ptr 1 0 0) (wd 16928) ff tt undefA ff, mL31 v) := by kernel_rfl
theorem w8_31 (i j v : Nat) : evCode k8 cl31 300 (fL i j v (.ptr 0 0 0) (wd 3) (wd 1) (.ptr 1 0 0) (wd 16928) ff tt undefA ff) (mL31 v) = some (.normal, fL i j v (.ptr 0 0 0) (wd 3) (wd 1) (.ptr 1 0 0) (wd 16928) ff tt (.p (.int .i64 (.ofNat 544))) ff, mL31 v) := by kernel_rfl
theorem w9a_31 (i j v : Nat) (K : RS → Out) : evIts k9a cl31 (fL i j v (.ptr 0 0 0) (wd 3) (wd 1) (.ptr 1 0 0) (wd 16928) ff tt (.p (.int .i64 (.ofNat 544))) ff) 0 ⟨[], [], [], mL31 v⟩ K =
    K ⟨[.p (.bool (beqI (.ofNat (e8 (e8 v))) (.ofNat (e8 v)))), .p (.bool (beqI (.ofNat (e8 (e8 v))) (.ofNat (e8 v)))), .p (.bool (beqI (.ofNat (e8 (e8 v))) (.ofNat (e8 v)))), .p (.int .u8 (.ofNat (e8 v))), wd v, .p (.int .u8 (.ofNat (e8 (e8 v)))), .p (.int .i64 (.ofNat 544)), .p (.str (strW (rL31 v))), .ptr 1 0 4, tt, tt], [], [], mL31 v⟩ := by kernel_rfl
theorem w9b_31 (i j v : Nat) : evIts k9b cl31 (fL i j v (.ptr 0 0 0) (wd 3) (wd 1) (.ptr 1 0 0) (wd 16928) ff tt (.p (.int .i64 (.ofNat 544))) ff) 0 ⟨[.p (.bool true), .p (.bool true), .p (.bool true), .p (.int .u8 (.ofNat (e8 v))), wd v, .p (.int .u8 (.ofNat (e8 (e8 v)))), .p (.int .i64 (.ofNat 544)), .p (.str (strW (rL31 v))), .ptr 1 0 4, tt, tt], [], [], mL31 v⟩ (finish [(11, 0)] (fL i j v (.ptr 0 0 0) (wd 3) (wd 1) (.ptr 1 0 0) (wd 16928) ff tt (.p (.int .i64 (.ofNat 544))) ff)) =
    some (.normal, fL i j v (.ptr 0 0 0) (wd 3) (wd 1) (.ptr 1 0 0) (wd 16928) ff tt (.p (.int .i64 (.ofNat 544))) (.p (.bool (beqI (.ofNat (e8 (e8 (eShr v 8)))) (.ofNat (e8 (eShr v 8)))))), mL31 v) := by kernel_rfl
theorem w9_31 (i j v : Nat) : evCode k9 cl31 300 (fL i j v (.ptr 0 0 0) (wd 3) (wd 1) (.ptr 1 0 0) (wd 16928) ff tt (.p (.int .i64 (.ofNat 544))) ff) (mL31 v) =
    some (.normal, fL i j v (.ptr 0 0 0) (wd 3) (wd 1) (.ptr 1 0 0) (wd 16928) ff tt (.p (.int .i64 (.ofNat 544))) tt, mL31 v) := by
  unfold k9
  rw [reg_two (w9a_31 i j v), lo_eq, w9b_31 i j v, lo_eq]
  rfl
theorem law5_31 (i j v : Nat) (hi : i % 5 = 3) (hj : j % 3 = 1) (hv : v < 65536) : evFun cl31 300 true cLaw5 [.p (.int .u8 (.ofNat i)), .p (.int .u8 (.ofNat j)), .p (.int .u16 (.ofNat v))] ⟨0, []⟩ = some (.ret (.p (.bool true)), ⟨0, []⟩) := by
  have ea : e16 (Nat.mod i 5) = 3 := by
    show i % 5 % 65536 = _
    rw [hi]
  have eb : e16 (Nat.mod j 3) = 1 := by
    show j % 3 % 65536 = _
    rw [hj]
  have h7 := w7_31 i j v
  rw [allL_true hv] at h7
  have h7 : evCode k7 cl31 300 (fL i j v (.ptr 0 0 0) (wd 3) (wd 1) (.ptr 1 0 0) (wd 16928) undefA tt undefA ff) (mL31 v) = some (.normal, fL i j v (.ptr 0 0 0) (wd 3) (wd 1) (.ptr 1 0 0) (wd 16928) ff tt undefA ff, mL31 v) := (seq_n h7).trans (w7c_31 i j v)
  have h3 := w3_31 i j v
  rw [ea] at h3
  have h4 := w4_31 i j v (wd 3)
  rw [eb] at h4
  show (ob (evCode (.seq k0 (.seq k1 (.seq k2 (.seq k3 (.seq k4 (.seq k5 (.seq k6 (.seq k7 (.seq k8 (.seq k9 k10)))))))))) cl31 300 (fL i j v undefA undefA undefA undefA undefA undefA undefA undefA undefA) ⟨0, []⟩) fun r => _) = _
  rw [seq_n (w0_31 i j v), seq_n (w1_31 i j v), seq_n (w2_31 i j v), seq_n h3, seq_n h4, seq_n (w5_31 i j v), seq_n (w6_31 i j v), seq_n h7, seq_n (w8_31 i j v), seq_n (w9_31 i j v)]
  kernel_rfl
theorem run5_31 (i j v : Nat) (hi : i % 5 = 3) (hj : j % 3 = 1) (hv : v < 65536) : RunOk Tryz.prog 5 [.p (.int .u8 (.ofNat i)), .p (.int .u8 (.ofNat j)), .p (.int .u16 (.ofNat v))] ⟨0, []⟩ (.ret (.p (.bool true))) ⟨0, []⟩ :=
  evFun_ok (by kernel_rfl) (callE_ok (by kernel_rfl) envL31 300 5) Tryz.func5 cLaw5_eq (law5_31 i j v hi hj hv)
noncomputable def eL32 : Env := EX10 [6, 7, 13] [bSan, pV0, pV4] [8] [q3217]
theorem envL32 : EnvOk Tryz.prog eL32 := envX10 (by
    intro e he
    simp only [List.mem_cons, List.not_mem_nil, or_false] at he
    rcases he with rfl | rfl | rfl
    · exact bSan_ok
    · exact pV0_ok
    · exact pV4_ok) (by
    intro e he
    simp only [List.mem_cons, List.not_mem_nil, or_false] at he
    rcases he with rfl
    exact q3217_ok)
noncomputable def cl32 : Cll := callE eL32 100000 300 5
noncomputable def rL32 (v : Nat) : List (Nat × Nat) := [(0, 27), (1, 66), (539, 27), (540, 66), (541, e8 (e8 v)), (546, e8 (e8 v)), (547, e8 (e8 (eShr v 8)))]
noncomputable def mL32 (v : Nat) : Mem := ⟨2, [runL (xL v 16930) (rL32 v), pgL]⟩
theorem w0_32 (i j v : Nat) : evCode k0 cl32 300 (fL i j v undefA undefA undefA undefA undefA undefA undefA undefA undefA) ⟨0, []⟩ = some (.normal, fL i j v undefA undefA undefA undefA undefA undefA undefA undefA ff, ⟨0, []⟩) := by kernel_rfl
theorem w1_32 (i j v : Nat) : evCode k1 cl32 300 (fL i j v undefA undefA undefA undefA undefA undefA undefA undefA ff) ⟨0, []⟩ = some (.normal, fL i j v undefA undefA undefA undefA undefA undefA tt undefA ff, ⟨0, []⟩) := by kernel_rfl
theorem w2_32 (i j v : Nat) : evCode k2 cl32 300 (fL i j v undefA undefA undefA undefA undefA undefA tt undefA ff) ⟨0, []⟩ = some (.normal, fL i j v (.ptr 0 0 0) undefA undefA undefA undefA undefA tt undefA ff, mL1) := by kernel_rfl
theorem w3_32 (i j v : Nat) : evCode k3 cl32 300 (fL i j v (.ptr 0 0 0) undefA undefA undefA undefA undefA tt undefA ff) mL1 = some (.normal, fL i j v (.ptr 0 0 0) (wd (e16 (Nat.mod i 5))) undefA undefA undefA undefA tt undefA ff, mL1) := by kernel_rfl
theorem w4_32 (i j v : Nat) (x : AV) : evCode k4 cl32 300 (fL i j v (.ptr 0 0 0) x undefA undefA undefA undefA tt undefA ff) mL1 = some (.normal, fL i j v (.ptr 0 0 0) x (wd (e16 (Nat.mod j 3))) undefA undefA undefA tt undefA ff, mL1) := by kernel_rfl
theorem w5_32 (i j v : Nat) : evCode k5 cl32 300 (fL i j v (.ptr 0 0 0) (wd 3) (wd 2) undefA undefA undefA tt undefA ff) mL1 = some (.normal, fL i j v (.ptr 0 0 0) (wd 3) (wd 2) (.ptr 1 0 0) undefA undefA tt undefA ff, mL32 v) := by kernel_rfl
theorem w6_32 (i j v : Nat) : evCode k6 cl32 300 (fL i j v (.ptr 0 0 0) (wd 3) (wd 2) (.ptr 1 0 0) undefA undefA tt undefA ff) (mL32 v) = some (.normal, fL i j v (.ptr 0 0 0) (wd 3) (wd 2) (.ptr 1 0 0) (wd 16930) undefA tt undefA ff, mL32 v) := by kernel_rfl
theorem w7_32 (i j v : Nat) : evCode k7R cl32 300 (fL i j v (.ptr 0 0 0) (wd 3) (wd 2) (.ptr 1 0 0) (wd 16930) undefA tt undefA ff) (mL32 v) =
    some (.normal, fL i j v (.ptr 0 0 0) (wd 3) (wd 2) (.ptr 1 0 0) (wd 16930) (.p (.bool (nt (allE (xL v 16930) (yL v 16930) (strW (rL32 v)))))) tt undefA ff, mL32 v) := by kernel_rfl
theorem w7c_32 (i j v : Nat) : evCode k7C cl32 300 (fL i j v (.ptr 0 0 0) (wd 3) (wd 2) (.ptr 1 0 0) (wd 16930) ff tt undefA ff) (mL32 v) = some (.normal, fL i j v (.ptr 0 0 0) (wd 3) (wd 2) (.ptr 1 0 0) (wd 16930) ff tt undefA ff, mL32 v) := by kernel_rfl
theorem w8_32 (i j v : Nat) : evCode k8 cl32 300 (fL i j v (.ptr 0 0 0) (wd 3) (wd 2) (.ptr 1 0 0) (wd 16930) ff tt undefA ff) (mL32 v) = some (.normal, fL i j v (.ptr 0 0 0) (wd 3) (wd 2) (.ptr 1 0 0) (wd 16930) ff tt (.p (.int .i64 (.ofNat 546))) ff, mL32 v) := by kernel_rfl
theorem w9a_32 (i j v : Nat) (K : RS → Out) : evIts k9a cl32 (fL i j v (.ptr 0 0 0) (wd 3) (wd 2) (.ptr 1 0 0) (wd 16930) ff tt (.p (.int .i64 (.ofNat 546))) ff) 0 ⟨[], [], [], mL32 v⟩ K =
    K ⟨[.p (.bool (beqI (.ofNat (e8 (e8 v))) (.ofNat (e8 v)))), .p (.bool (beqI (.ofNat (e8 (e8 v))) (.ofNat (e8 v)))), .p (.bool (beqI (.ofNat (e8 (e8 v))) (.ofNat (e8 v)))), .p (.int .u8 (.ofNat (e8 v))), wd v, .p (.int .u8 (.ofNat (e8 (e8 v)))), .p (.int .i64 (.ofNat 546)), .p (.str (strW (rL32 v))), .ptr 1 0 4, tt, tt], [], [], mL32 v⟩ := by kernel_rfl
theorem w9b_32 (i j v : Nat) : evIts k9b cl32 (fL i j v (.ptr 0 0 0) (wd 3) (wd 2) (.ptr 1 0 0) (wd 16930) ff tt (.p (.int .i64 (.ofNat 546))) ff) 0 ⟨[.p (.bool true), .p (.bool true), .p (.bool true), .p (.int .u8 (.ofNat (e8 v))), wd v, .p (.int .u8 (.ofNat (e8 (e8 v)))), .p (.int .i64 (.ofNat 546)), .p (.str (strW (rL32 v))), .ptr 1 0 4, tt, tt], [], [], mL32 v⟩ (finish [(11, 0)] (fL i j v (.ptr 0 0 0) (wd 3) (wd 2) (.ptr 1 0 0) (wd 16930) ff tt (.p (.int .i64 (.ofNat 546))) ff)) =
    some (.normal, fL i j v (.ptr 0 0 0) (wd 3) (wd 2) (.ptr 1 0 0) (wd 16930) ff tt (.p (.int .i64 (.ofNat 546))) (.p (.bool (beqI (.ofNat (e8 (e8 (eShr v 8)))) (.ofNat (e8 (eShr v 8)))))), mL32 v) := by kernel_rfl
theorem w9_32 (i j v : Nat) : evCode k9 cl32 300 (fL i j v (.ptr 0 0 0) (wd 3) (wd 2) (.ptr 1 0 0) (wd 16930) ff tt (.p (.int .i64 (.ofNat 546))) ff) (mL32 v) =
    some (.normal, fL i j v (.ptr 0 0 0) (wd 3) (wd 2) (.ptr 1 0 0) (wd 16930) ff tt (.p (.int .i64 (.ofNat 546))) tt, mL32 v) := by
  unfold k9
  rw [reg_two (w9a_32 i j v), lo_eq, w9b_32 i j v, lo_eq]
  rfl
theorem law5_32 (i j v : Nat) (hi : i % 5 = 3) (hj : j % 3 = 2) (hv : v < 65536) : evFun cl32 300 true cLaw5 [.p (.int .u8 (.ofNat i)), .p (.int .u8 (.ofNat j)), .p (.int .u16 (.ofNat v))] ⟨0, []⟩ = some (.ret (.p (.bool true)), ⟨0, []⟩) := by
  have ea : e16 (Nat.mod i 5) = 3 := by
    show i % 5 % 65536 = _
    rw [hi]
  have eb : e16 (Nat.mod j 3) = 2 := by
    show j % 3 % 65536 = _
    rw [hj]
  have h7 := w7_32 i j v
  rw [allL_true hv] at h7
  have h7 : evCode k7 cl32 300 (fL i j v (.ptr 0 0 0) (wd 3) (wd 2) (.ptr 1 0 0) (wd 16930) undefA tt undefA ff) (mL32 v) = some (.normal, fL i j v (.ptr 0 0 0) (wd 3) (wd 2) (.ptr 1 0 0) (wd 16930) ff tt undefA ff, mL32 v) := (seq_n h7).trans (w7c_32 i j v)
  have h3 := w3_32 i j v
  rw [ea] at h3
  have h4 := w4_32 i j v (wd 3)
  rw [eb] at h4
  show (ob (evCode (.seq k0 (.seq k1 (.seq k2 (.seq k3 (.seq k4 (.seq k5 (.seq k6 (.seq k7 (.seq k8 (.seq k9 k10)))))))))) cl32 300 (fL i j v undefA undefA undefA undefA undefA undefA undefA undefA undefA) ⟨0, []⟩) fun r => _) = _
  rw [seq_n (w0_32 i j v), seq_n (w1_32 i j v), seq_n (w2_32 i j v), seq_n h3, seq_n h4, seq_n (w5_32 i j v), seq_n (w6_32 i j v), seq_n h7, seq_n (w8_32 i j v), seq_n (w9_32 i j v)]
  kernel_rfl
theorem run5_32 (i j v : Nat) (hi : i % 5 = 3) (hj : j % 3 = 2) (hv : v < 65536) : RunOk Tryz.prog 5 [.p (.int .u8 (.ofNat i)), .p (.int .u8 (.ofNat j)), .p (.int .u16 (.ofNat v))] ⟨0, []⟩ (.ret (.p (.bool true))) ⟨0, []⟩ :=
  evFun_ok (by kernel_rfl) (callE_ok (by kernel_rfl) envL32 300 5) Tryz.func5 cLaw5_eq (law5_32 i j v hi hj hv)
end Go.Ab
