/- EvalPaths: the law for some indices. EvalPaths: the law's function returns true. -/
import Derived.Test.YtmhjnndhphidfaaGreatH40
import Derived.Test.YtmhjnndhphidfaaGreatH41
import Derived.Test.YtmhjnndhphidfaaGreatH42
import Derived.Test.YtmhjnndhphidfaaGreatL0
import Derived.Test.YtmhjnndhphidfaaGreatL1
import Derived.Test.YtmhjnndhphidfaaGreatL3
namespace Go.Ab
set_option maxRecDepth 30000
set_option linter.unusedSimpArgs false
open Go.Proofs Go.RowKit
set_option linter.unusedVariables false
noncomputable def eL40 : Env := EX10 [6, 7, 13] [bSan, pV0, pV4] [8] [q4017]
theorem envL40 : EnvOk Tryz.prog eL40 := envX10 (by
    intro e he
    simp only [List.mem_cons, List.not_mem_nil, or_false] at he
    rcases he with rfl | rfl | rfl
    · exact bSan_ok
    · exact pV0_ok
    · exact pV4_ok) (by
    intro e he
    simp only [List.mem_cons, List.not_mem_nil, or_false] at he
    rcases he with rfl
    exact q4017_ok)
noncomputable def cl40 : Cll := callE eL40 100000 300 5
noncomputable def rL40 (v : Nat) : List (Nat × Nat) := [(0, 36), (1, 66), (548, 36), (549, 66), (550, e8 (e8 v)), (551, e8 (e8 v)), (552, e8 (e8 (eShr v 8)))]
noncomputable def mL40 (v : Nat) : Mem := ⟨2, [runL (xL v 16935) (rL40 v), pgL]⟩
theorem w0_40 (i j v : Nat) : evCode k0 cl40 300 (fL i j v undefA undefA undefA undefA undefA undefA undefA undefA undefA) ⟨0, []⟩ = some (.normal, fL i j v undefA undefA undefA undefA undefA undefA undefA undefA ff, ⟨0, []⟩) := by kernel_rfl
theorem w1_40 (i j v : Nat) : evCode k1 cl40 300 (fL i j v undefA undefA undefA undefA undefA undefA undefA undefA ff) ⟨0, []⟩ = some (.normal, fL i j v undefA undefA undefA undefA undefA undefA tt undefA ff, ⟨0, []⟩) := by kernel_rfl
theorem w2_40 (i j v : Nat) : evCode k2 cl40 300 (fL i j v undefA undefA undefA undefA undefA undefA tt undefA ff) ⟨0, []⟩ = some (.normal, fL i j v (.ptr 0 0 0) undefA undefA undefA undefA undefA tt undefA ff, mL1) := by kernel_rfl
theorem w3_40 (i j v : Nat) : evCode k3 cl40 300 (fL i j v (.ptr 0 0 0) undefA undefA undefA undefA undefA tt undefA ff) mL1 = some (.normal, fL i j v (.ptr 0 0 0) (wd (e16 (Nat.mod i 5))) undefA undefA undefA undefA tt undefA ff, mL1) := by kernel_rfl
theorem w4_40 (i j v : Nat) (x : AV) : evCode k4 cl40 300 (fL i j v (.ptr 0 0 0) x undefA undefA undefA undefA tt undefA ff) mL1 = some (.normal, fL i j v (.ptr 0 0 0) x (wd (e16 (Nat.mod j 3))) undefA undefA undefA tt undefA ff, mL1) := by kernel_rfl
theorem w5_40 (i j v : Nat) : evCode k5 cl40 300 (fL i j v (.ptr 0 0 0) (wd 4) (wd 0) undefA undefA undefA tt undefA ff) mL1 = some (.normal, fL i j v (.ptr 0 0 0) (wd 4) (wd 0) (.ptr 1 0 0) undefA undefA tt undefA ff, mL40 v) := by kernel_rfl
theorem w6_40 (i j v : Nat) : evCode k6 cl40 300 (fL i j v (.ptr 0 0 0) (wd 4) (wd 0) (.ptr 1 0 0) undefA undefA tt undefA ff) (mL40 v) = some (.normal, fL i j v (.ptr 0 0 0) (wd 4) (wd 0) (.ptr 1 0 0) (wd 16935) undefA tt undefA ff, mL40 v) := by kernel_rfl
theorem w7_40 (i j v : Nat) : evCode k7R cl40 300 (fL i j v (.ptr 0 0 0) (wd 4) (wd 0) (.ptr 1 0 0) (wd 16935) undefA tt undefA ff) (mL40 v) =
    some (.normal, fL i j v (.ptr 0 0 0) (wd 4) (wd 0) (.ptr 1 0 0) (wd 16935) (.p (.bool (nt (allE (xL v 16935) (yL v 16935) (strW (rL40 v)))))) tt undefA ff, mL40 v) := by kernel_rfl
theorem w7c_40 (i j v : Nat) : evCode k7C cl40 300 (fL i j v (.ptr 0 0 0) (wd 4) (wd 0) (.ptr 1 0 0) (wd 16935) ff tt undefA ff) (mL40 v) = some (.normal, fL i j v (.ptr 0 0 0) (wd 4) (wd 0) (.ptr 1 0 0) (wd 16935) ff tt undefA ff, mL40 v) := by kernel_rfl
theorem w8_40 (i j v : Nat) : evCode k8 cl40 300 (fL i j v (.ptr 0 0 0) (wd 4) (wd 0) (.ptr 1 0 0) (wd 16935) ff tt undefA ff) (mL40 v) = some (.normal, fL i j v (.ptr 0 0 0) (wd 4) (wd 0) (.ptr 1 0 0) (wd 16935) ff tt (.p (.int .i64 (.ofNat 551))) ff, mL40 v) := by kernel_rfl
theorem w9a_40 (i j v : Nat) (K : RS → Out) : evIts k9a cl40 (fL i j v (.ptr 0 0 0) (wd 4) (wd 0) (.ptr 1 0 0) (wd 16935) ff tt (.p (.int .i64 (.ofNat 551))) ff) 0 ⟨[], [], [], mL40 v⟩ K =
    K ⟨[.p (.bool (beqI (.ofNat (e8 (e8 v))) (.ofNat (e8 v)))), .p (.bool (beqI (.ofNat (e8 (e8 v))) (.ofNat (e8 v)))), .p (.bool (beqI (.ofNat (e8 (e8 v))) (.ofNat (e8 v)))), .p (.int .u8 (.ofNat (e8 v))), wd v, .p (.int .u8 (.ofNat (e8 (e8 v)))), .p (.int .i64 (.ofNat 551)), .p (.str (strW (rL40 v))), .ptr 1 0 4, tt, tt], [], [], mL40 v⟩ := by kernel_rfl
theorem w9b_40 (i j v : Nat) : evIts k9b cl40 (fL i j v (.ptr 0 0 0) (wd 4) (wd 0) (.ptr 1 0 0) (wd 16935) ff tt (.p (.int .i64 (.ofNat 551))) ff) 0 ⟨[.p (.bool true), .p (.bool true), .p (.bool true), .p (.int .u8 (.ofNat (e8 v))), wd v, .p (.int .u8 (.ofNat (e8 (e8 v)))), .p (.int .i64 (.ofNat 551)), .p (.str (strW (rL40 v))), .ptr 1 0 4, tt, tt], [], [], mL40 v⟩ (finish [(11, 0)] (fL i j v (.ptr 0 0 0) (wd 4) (wd 0) (.ptr 1 0 0) (wd 16935) ff tt (.p (.int .i64 (.ofNat 551))) ff)) =
    some (.normal, fL i j v (.ptr 0 0 0) (wd 4) (wd 0) (.ptr 1 0 0) (wd 16935) ff tt (.p (.int .i64 (.ofNat 551))) (.p (.bool (beqI (.ofNat (e8 (e8 (eShr v 8)))) (.ofNat (e8 (eShr v 8)))))), mL40 v) := by kernel_rfl
theorem w9_40 (i j v : Nat) : evCode k9 cl40 300 (fL i j v (.ptr 0 0 0) (wd 4) (wd 0) (.ptr 1 0 0) (wd 16935) ff tt (.p (.int .i64 (.ofNat 551))) ff) (mL40 v) =
    some (.normal, fL i j v (.ptr 0 0 0) (wd 4) (wd 0) (.ptr 1 0 0) (wd 16935) ff tt (.p (.int .i64 (.ofNat 551))) tt, mL40 v) := by
  unfold k9
  rw [reg_two (w9a_40 i j v), lo_eq, w9b_40 i j v, lo_eq]
  rfl
theorem law5_40 (i j v : Nat) (hi : i % 5 = 4) (hj : j % 3 = 0) (hv : v < 65536) : evFun cl40 300 true cLaw5 [.p (.int .u8 (.ofNat i)), .p (.int .u8 (.ofNat j)), .p (.int .u16 (.ofNat v))] ⟨0, []⟩ = some (.ret (.p (.bool true)), ⟨0, []⟩) := by
  have ea : e16 (Nat.mod i 5) = 4 := by
    show i % 5 % 65536 = _
    rw [hi]
  have eb : e16 (Nat.mod j 3) = 0 := by
    show j % 3 % 65536 = _
    rw [hj]
  have h7 := w7_40 i j v
  rw [allL_true hv] at h7
  have h7 : evCode k7 cl40 300 (fL i j v (.ptr 0 0 0) (wd 4) (wd 0) (.ptr 1 0 0) (wd 16935) undefA tt undefA ff) (mL40 v) = some (.normal, fL i j v (.ptr 0 0 0) (wd 4) (wd 0) (.ptr 1 0 0) (wd 16935) ff tt undefA ff, mL40 v) := (seq_n h7).trans (w7c_40 i j v)
  have h3 := w3_40 i j v
  rw [ea] at h3
  have h4 := w4_40 i j v (wd 4)
  rw [eb] at h4
  show (ob (evCode (.seq k0 (.seq k1 (.seq k2 (.seq k3 (.seq k4 (.seq k5 (.seq k6 (.seq k7 (.seq k8 (.seq k9 k10)))))))))) cl40 300 (fL i j v undefA undefA undefA undefA undefA undefA undefA undefA undefA) ⟨0, []⟩) fun r => _) = _
  rw [seq_n (w0_40 i j v), seq_n (w1_40 i j v), seq_n (w2_40 i j v), seq_n h3, seq_n h4, seq_n (w5_40 i j v), seq_n (w6_40 i j v), seq_n h7, seq_n (w8_40 i j v), seq_n (w9_40 i j v)]
  kernel_rfl
theorem run5_40 (i j v : Nat) (hi : i % 5 = 4) (hj : j % 3 = 0) (hv : v < 65536) : RunOk Tryz.prog 5 [.p (.int .u8 (.ofNat i)), .p (.int .u8 (.ofNat j)), .p (.int .u16 (.ofNat v))] ⟨0, []⟩ (.ret (.p (.bool true))) ⟨0, []⟩ :=
  evFun_ok (by kernel_rfl) (callE_ok (by kernel_rfl) envL40 300 5) Tryz.func5 cLaw5_eq (law5_40 i j v hi hj hv)
noncomputable def eL41 : Env := EX10 [6, 7, 13] [bSan, pV0, pV4] [8] [q4117]
theorem envL41 : EnvOk Tryz.prog eL41 := envX10 (by
    intro e he
    simp only [List.mem_cons, List.not_mem_nil, or_false] at he
    rcases he with rfl | rfl | rfl
    · exact bSan_ok
    · exact pV0_ok
    · exact pV4_ok) (by
    intro e he
    simp only [List.mem_cons, List.not_mem_nil, or_false] at he
    rcases he with rfl
    exact q4117_ok)
noncomputable def cl41 : Cll := callE eL41 100000 300 5
noncomputable def rL41 (v : Nat) : List (Nat × Nat) := [(0, 36), (1, 66), (548, 36), (549, 66), (550, e8 (e8 v)), (553, e8 (e8 v)), (554, e8 (e8 (eShr v 8)))]
noncomputable def mL41 (v : Nat) : Mem := ⟨2, [runL (xL v 16937) (rL41 v), pgL]⟩
theorem w0_41 (i j v : Nat) : evCode k0 cl41 300 (fL i j v undefA undefA undefA undefA undefA undefA undefA undefA undefA) ⟨0, []⟩ = some (.normal, fL i j v undefA undefA undefA undefA undefA undefA undefA undefA ff, ⟨0, []⟩) := by kernel_rfl
theorem w1_41 (i j v : Nat) : evCode k1 cl41 300 (fL i j v undefA undefA undefA undefA undefA undefA undefA undefA ff) ⟨0, []⟩ = some (.normal, fL i j v undefA undefA undefA undefA undefA undefA tt undefA ff, ⟨0, []⟩) := by kernel_rfl
theorem w2_41 (i j v : Nat) : evCode k2 cl41 300 (fL i j v undefA undefA undefA undefA undefA undefA tt undefA ff) ⟨0, []⟩ = some (.normal, fL i j v (.ptr 0 0 0) undefA undefA undefA undefA undefA tt undefA ff, mL1) := by kernel_rfl
theorem w3_41 (i j v : Nat) : evCode k3 cl41 300 (fL i j v (.ptr 0 0 0) undefA undefA undefA undefA undefA tt undefA ff) mL1 = some (.normal, fL i j v (.ptr 0 0 0) (wd (e16 (Nat.mod i 5))) undefA undefA undefA undefA tt undefA ff, mL1) := by kernel_rfl
theorem w4_41 (i j v : Nat) (x : AV) : evCode k4 cl41 300 (fL i j v (.ptr 0 0 0) x undefA undefA undefA undefA tt undefA ff) mL1 = some (.normal, fL i j v (.ptr 0 0 0) x (wd (e16 (Nat.mod j 3))) undefA undefA undefA tt undefA ff, mL1) := by kernel_rfl
theorem w5_41 (i j v : Nat) : evCode k5 cl41 300 (fL i j v (.ptr 0 0 0) (wd 4) (wd 1) undefA undefA undefA tt undefA ff) mL1 = some (.normal, fL i j v (.ptr 0 0 0) (wd 4) (wd 1) (.ptr 1 0 0) undefA undefA tt undefA ff, mL41 v) := by kernel_rfl
theorem w6_41 (i j v : Nat) : evCode k6 cl41 300 (fL i j v (.ptr 0 0 0) (wd 4) (wd 1) (.ptr 1 0 0) undefA undefA tt undefA ff) (mL41 v) = some (.normal, fL i j v (.ptr 0 0 0) (wd 4) (wd 1) (.ptr 1 0 0) (wd 16937) undefA tt undefA ff, mL41 v) := by kernel_rfl
theorem w7_41 (i j v : Nat) : evCode k7R cl41 300 (fL i j v (.ptr 0 0 0) (wd 4) (wd 1) (.ptr 1 0 0) (wd 16937) undefA tt undefA ff) (mL41 v) =
    some (.normal, fL i j v (.ptr 0 0 0) (wd 4) (wd 1) (.ptr 1 0 0) (wd 16937) (.p (.bool (nt (allE (xL v 16937) (yL v 16937) (strW (rL41 v)))))) tt undefA ff, mL41 v) := by kernel_rfl
theorem w7c_41 (i j v : Nat) : evCode k7C cl41 300 (fL i j v (.ptr 0 0 0) (wd 4) (wd 1) (.ptr 1 0 0) (wd 16937) ff tt undefA ff) (mL41 v) = some (.normal, fL i j v (.ptr 0 0 0) (wd 4) (wd 1) (.ptr 1 0 0) (wd 16937) ff tt undefA ff, mL41 v) := by kernel_rfl
theorem w8_41 (i j v : Nat) : evCode k8 cl41 300 (fL i j v (.ptr 0 0 0) (wd 4) (wd 1) (.ptr 1 0 0) (wd 16937) ff tt undefA ff) (mL41 v) = some (.normal, fL i j v (.ptr 0 0 0) (wd 4) (wd 1) (.ptr 1 0 0) (wd 16937) ff tt (.p (.int .i64 (.ofNat 553))) ff, mL41 v) := by kernel_rfl
theorem w9a_41 (i j v : Nat) (K : RS → Out) : evIts k9a cl41 (fL i j v (.ptr 0 0 0) (wd 4) (wd 1) (.ptr 1 0 0) (wd 16937) ff tt (.p (.int .i64 (.ofNat 553))) ff) 0 ⟨[], [], [], mL41 v⟩ K =
    K ⟨[.p (.bool (beqI (.ofNat (e8 (e8 v))) (.ofNat (e8 v)))), .p (.bool (beqI (.ofNat (e8 (e8 v))) (.ofNat (e8 v)))), .p (.bool (beqI (.ofNat (e8 (e8 v))) (.ofNat (e8 v)))), .p (.int .u8 (.ofNat (e8 v))), wd v, .p (.int .u8 (.ofNat (e8 (e8 v)))), .p (.int .i64 (.ofNat 553)), .p (.str (strW (rL41 v))), .ptr 1 0 4, tt, tt], [], [], mL41 v⟩ := by kernel_rfl
theorem w9b_41 (i j v : Nat) : evIts k9b cl41 (fL i j v (.ptr 0 0 0) (wd 4) (wd 1) (.ptr 1 0 0) (wd 16937) ff tt (.p (.int .i64 (.ofNat 553))) ff) 0 ⟨[.p (.bool true), .p (.bool true), .p (.bool true), .p (.int .u8 (.ofNat (e8 v))), wd v, .p (.int .u8 (.ofNat (e8 (e8 v)))), .p (.int .i64 (.ofNat 553)), .p (.str (strW (rL41 v))), .ptr 1 0 4, tt, tt], [], [], mL41 v⟩ (finish [(11, 0)] (fL i j v (.ptr 0 0 0) (wd 4) (wd 1) (.ptr 1 0 0) (wd 16937) ff tt (.p (.int .i64 (.ofNat 553))) ff)) =
    some (.normal, fL i j v (.ptr 0 0 0) (wd 4) (wd 1) (.ptr 1 0 0) (wd 16937) ff tt (.p (.int .i64 (.ofNat 553))) (.p (.bool (beqI (.ofNat (e8 (e8 (eShr v 8)))) (.ofNat (e8 (eShr v 8)))))), mL41 v) := by kernel_rfl
theorem w9_41 (i j v : Nat) : evCode k9 cl41 300 (fL i j v (.ptr 0 0 0) (wd 4) (wd 1) (.ptr 1 0 0) (wd 16937) ff tt (.p (.int .i64 (.ofNat 553))) ff) (mL41 v) =
    some (.normal, fL i j v (.ptr 0 0 0) (wd 4) (wd 1) (.ptr 1 0 0) (wd 16937) ff tt (.p (.int .i64 (.ofNat 553))) tt, mL41 v) := by
  unfold k9
  rw [reg_two (w9a_41 i j v), lo_eq, w9b_41 i j v, lo_eq]
  rfl
theorem law5_41 (i j v : Nat) (hi : i % 5 = 4) (hj : j % 3 = 1) (hv : v < 65536) : evFun cl41 300 true cLaw5 [.p (.int .u8 (.ofNat i)), .p (.int .u8 (.ofNat j)), .p (.int .u16 (.ofNat v))] ⟨0, []⟩ = some (.ret (.p (.bool true)), ⟨0, []⟩) := by
  have ea : e16 (Nat.mod i 5) = 4 := by
    show i % 5 % 65536 = _
    rw [hi]
  have eb : e16 (Nat.mod j 3) = 1 := by
    show j % 3 % 65536 = _
    rw [hj]
  have h7 := w7_41 i j v
  rw [allL_true hv] at h7
  have h7 : evCode k7 cl41 300 (fL i j v (.ptr 0 0 0) (wd 4) (wd 1) (.ptr 1 0 0) (wd 16937) undefA tt undefA ff) (mL41 v) = some (.normal, fL i j v (.ptr 0 0 0) (wd 4) (wd 1) (.ptr 1 0 0) (wd 16937) ff tt undefA ff, mL41 v) := (seq_n h7).trans (w7c_41 i j v)
  have h3 := w3_41 i j v
  rw [ea] at h3
  have h4 := w4_41 i j v (wd 4)
  rw [eb] at h4
  show (ob (evCode (.seq k0 (.seq k1 (.seq k2 (.seq k3 (.seq k4 (.seq k5 (.seq k6 (.seq k7 (.seq k8 (.seq k9 k10)))))))))) cl41 300 (fL i j v undefA undefA undefA undefA undefA undefA undefA undefA undefA) ⟨0, []⟩) fun r => _) = _
  rw [seq_n (w0_41 i j v), seq_n (w1_41 i j v), seq_n (w2_41 i j v), seq_n h3, seq_n h4, seq_n (w5_41 i j v), seq_n (w6_41 i j v), seq_n h7, seq_n (w8_41 i j v), seq_n (w9_41 i j v)]
  kernel_rfl
theorem run5_41 (i j v : Nat) (hi : i % 5 = 4) (hj : j % 3 = 1) (hv : v < 65536) : RunOk Tryz.prog 5 [.p (.int .u8 (.ofNat i)), .p (.int .u8 (.ofNat j)), .p (.int .u16 (.ofNat v))] ⟨0, []⟩ (.ret (.p (.bool true))) ⟨0, []⟩ :=
  evFun_ok (by kernel_rfl) (callE_ok (by kernel_rfl) envL41 300 5) Tryz.func5 cLaw5_eq (law5_41 i j v hi hj hv)
noncomputable def eL42 : Env := EX10 [6, 7, 13] [bSan, pV0, pV4] [8] [q4217]
theorem envL42 : EnvOk Tryz.prog eL42 := envX10 (by
    intro e he
    simp only [List.mem_cons, List.not_mem_nil, or_false] at he
    rcases he with rfl | rfl | rfl
    · exact bSan_ok
    · exact pV0_ok
    · exact pV4_ok) (by
    intro e he
    simp only [List.mem_cons, List.not_mem_nil, or_false] at he
    rcases he with rfl
    exact q4217_ok)
noncomputable def cl42 : Cll := callE eL42 100000 300 5
noncomputable def rL42 (v : Nat) : List (Nat × Nat) := [(0, 36), (1, 66), (548, 36), (549, 66), (550, e8 (e8 v)), (555, e8 (e8 v)), (556, e8 (e8 (eShr v 8)))]
noncomputable def mL42 (v : Nat) : Mem := ⟨2, [runL (xL v 16939) (rL42 v), pgL]⟩
theorem w0_42 (i j v : Nat) : evCode k0 cl42 300 (fL i j v undefA undefA undefA undefA undefA undefA undefA undefA undefA) ⟨0, []⟩ = some (.normal, fL i j v undefA undefA undefA undefA undefA undefA undefA undefA ff, ⟨0, []⟩) := by kernel_rfl
theorem w1_42 (i j v : Nat) : evCode k1 cl42 300 (fL i j v undefA undefA undefA undefA undefA undefA undefA undefA ff) ⟨0, []⟩ = some (.normal, fL i j v undefA undefA undefA undefA undefA undefA tt undefA ff, ⟨0, []⟩) := by kernel_rfl
theorem w2_42 (i j v : Nat) : evCode k2 cl42 300 (fL i j v undefA undefA undefA undefA undefA undefA tt undefA ff) ⟨0, []⟩ = some (.normal, fL i j v (.ptr 0 0 0) undefA undefA undefA undefA undefA tt undefA ff, mL1) := by kernel_rfl
theorem w3_42 (i j v : Nat) : evCode k3 cl42 300 (fL i j v (.ptr 0 0 0) undefA undefA undefA undefA undefA tt undefA ff) mL1 = some (.normal, fL i j v (.ptr 0 0 0) (wd (e16 (Nat.mod i 5))) undefA undefA undefA undefA tt undefA ff, mL1) := by kernel_rfl
theorem w4_42 (i j v : Nat) (x : AV) : evCode k4 cl42 300 (fL i j v (.ptr 0 0 0) x undefA undefA undefA undefA tt undefA ff) mL1 = some (.normal, fL i j v (.ptr 0 0 0) x (wd (e16 (Nat.mod j 3))) undefA undefA undefA tt undefA ff, mL1) := by kernel_rfl
theorem w5_42 (i j v : Nat) : evCode k5 cl42 300 (fL i j v (.ptr 0 0 0) (wd 4) (wd 2) undefA undefA undefA tt undefA ff) mL1 = some (.normal, fL i j v (.ptr 0 0 0) (wd 4) (wd 2) (.ptr 1 0 0) undefA undefA tt undefA ff, mL42 v) := by kernel_rfl
theorem w6_42 (i j v : Nat) : evCode k6 cl42 300 (fL i j v (.ptr 0 0 0) (wd 4) (wd 2) (.ptr 1 0 0) undefA undefA tt undefA ff) (mL42 v) = some (.normal, fL i j v (.ptr 0 0 0) (wd 4) (wd 2) (.ptr 1 0 0) (wd 16939) undefA tt undefA ff, mL42 v) := by kernel_rfl
theorem w7_42 (i j v : Nat) : evCode k7R cl42 300 (fL i j v (.ptr 0 0 0) (wd 4) (wd 2) (.ptr 1 0 0) (wd 16939) undefA tt undefA ff) (mL42 v) =
    some (.normal, fL i j v (.ptr 0 0 0) (wd 4) (wd 2) (.ptr 1 0 0) (wd 16939) (.p (.bool (nt (allE (xL v 16939) (yL v 16939) (strW (rL42 v)))))) tt undefA ff, mL42 v) := by kernel_rfl
theorem w7c_42 (i j v : Nat) : evCode k7C cl42 300 (fL i j v (.ptr 0 0 0) (wd 4) (wd 2) (.ptr 1 0 0) (wd 16939) ff tt undefA ff) (mL42 v) = some (.normal, fL i j v (.ptr 0 0 0) (wd 4) (wd 2) (.ptr 1 0 0) (wd 16939) ff tt undefA ff, mL42 v) := by kernel_rfl
theorem w8_42 (i j v : Nat) : evCode k8 cl42 300 (fL i j v (.ptr 0 0 0) (wd 4) (wd 2) (.ptr 1 0 0) (wd 16939) ff tt undefA ff) (mL42 v) = some (.normal, fL i j v (.ptr 0 0 0) (wd 4) (wd 2) (.ptr 1 0 0) (wd 16939) ff tt (.p (.int .i64 (.ofNat 555))) ff, mL42 v) := by kernel_rfl
theorem w9a_42 (i j v : Nat) (K : RS → Out) : evIts k9a cl42 (fL i j v (.ptr 0 0 0) (wd 4) (wd 2) (.ptr 1 0 0) (wd 16939) ff tt (.p (.int .i64 (.ofNat 555))) ff) 0 ⟨[], [], [], mL42 v⟩ K =
    K ⟨[.p (.bool (beqI (.ofNat (e8 (e8 v))) (.ofNat (e8 v)))), .p (.bool (beqI (.ofNat (e8 (e8 v))) (.ofNat (e8 v)))), .p (.bool (beqI (.ofNat (e8 (e8 v))) (.ofNat (e8 v)))), .p (.int .u8 (.ofNat (e8 v))), wd v, .p (.int .u8 (.ofNat (e8 (e8 v)))), .p (.int .i64 (.ofNat 555)), .p (.str (strW (rL42 v))), .ptr 1 0 4, tt, tt], [], [], mL42 v⟩ := by kernel_rfl
theorem w9b_42 (i j v : Nat) : evIts k9b cl42 (fL i j v (.ptr 0 0 0) (wd 4) (wd 2) (.ptr 1 0 0) (wd 16939) ff tt (.p (.int .i64 (.ofNat 555))) ff) 0 ⟨[.p (.bool true), .p (.bool true), .p (.bool true), .p (.int .u8 (.ofNat (e8 v))), wd v, .p (.int .u8 (.ofNat (e8 (e8 v)))), .p (.int .i64 (.ofNat 555)), .p (.str (strW (rL42 v))), .ptr 1 0 4, tt, tt], [], [], mL42 v⟩ (finish [(11, 0)] (fL i j v (.ptr 0 0 0) (wd 4) (wd 2) (.ptr 1 0 0) (wd 16939) ff tt (.p (.int .i64 (.ofNat 555))) ff)) =
    some (.normal, fL i j v (.ptr 0 0 0) (wd 4) (wd 2) (.ptr 1 0 0) (wd 16939) ff tt (.p (.int .i64 (.ofNat 555))) (.p (.bool (beqI (.ofNat (e8 (e8 (eShr v 8)))) (.ofNat (e8 (eShr v 8)))))), mL42 v) := by kernel_rfl
theorem w9_42 (i j v : Nat) : evCode k9 cl42 300 (fL i j v (.ptr 0 0 0) (wd 4) (wd 2) (.ptr 1 0 0) (wd 16939) ff tt (.p (.int .i64 (.ofNat 555))) ff) (mL42 v) =
    some (.normal, fL i j v (.ptr 0 0 0) (wd 4) (wd 2) (.ptr 1 0 0) (wd 16939) ff tt (.p (.int .i64 (.ofNat 555))) tt, mL42 v) := by
  unfold k9
  rw [reg_two (w9a_42 i j v), lo_eq, w9b_42 i j v, lo_eq]
  rfl
theorem law5_42 (i j v : Nat) (hi : i % 5 = 4) (hj : j % 3 = 2) (hv : v < 65536) : evFun cl42 300 true cLaw5 [.p (.int .u8 (.ofNat i)), .p (.int .u8 (.ofNat j)), .p (.int .u16 (.ofNat v))] ⟨0, []⟩ = some (.ret (.p (.bool true)), ⟨0, []⟩) := by
  have ea : e16 (Nat.mod i 5) = 4 := by
    show i % 5 % 65536 = _
    rw [hi]
  have eb : e16 (Nat.mod j 3) = 2 := by
    show j % 3 % 65536 = _
    rw [hj]
  have h7 := w7_42 i j v
  rw [allL_true hv] at h7
  have h7 : evCode k7 cl42 300 (fL i j v (.ptr 0 0 0) (wd 4) (wd 2) (.ptr 1 0 0) (wd 16939) undefA tt undefA ff) (mL42 v) = some (.normal, fL i j v (.ptr 0 0 0) (wd 4) (wd 2) (.ptr 1 0 0) (wd 16939) ff tt undefA ff, mL42 v) := (seq_n h7).trans (w7c_42 i j v)
  have h3 := w3_42 i j v
  rw [ea] at h3
  have h4 := w4_42 i j v (wd 4)
  rw [eb] at h4
  show (ob (evCode (.seq k0 (.seq k1 (.seq k2 (.seq k3 (.seq k4 (.seq k5 (.seq k6 (.seq k7 (.seq k8 (.seq k9 k10)))))))))) cl42 300 (fL i j v undefA undefA undefA undefA undefA undefA undefA undefA undefA) ⟨0, []⟩) fun r => _) = _
  rw [seq_n (w0_42 i j v), seq_n (w1_42 i j v), seq_n (w2_42 i j v), seq_n h3, seq_n h4, seq_n (w5_42 i j v), seq_n (w6_42 i j v), seq_n h7, seq_n (w8_42 i j v), seq_n (w9_42 i j v)]
  kernel_rfl
theorem run5_42 (i j v : Nat) (hi : i % 5 = 4) (hj : j % 3 = 2) (hv : v < 65536) : RunOk Tryz.prog 5 [.p (.int .u8 (.ofNat i)), .p (.int .u8 (.ofNat j)), .p (.int .u16 (.ofNat v))] ⟨0, []⟩ (.ret (.p (.bool true))) ⟨0, []⟩ :=
  evFun_ok (by kernel_rfl) (callE_ok (by kernel_rfl) envL42 300 5) Tryz.func5 cLaw5_eq (law5_42 i j v hi hj hv)
end Go.Ab
namespace Go.Ab
set_option maxRecDepth 30000
set_option linter.unusedSimpArgs false
open Go.Proofs Go.RowKit
set_option linter.unusedVariables false
theorem run5 (i j v : Nat) (hv : v < 65536) : RunOk Tryz.prog 5 [.p (.int .u8 (.ofNat i)), .p (.int .u8 (.ofNat j)), .p (.int .u16 (.ofNat v))] ⟨0, []⟩ (.ret (.p (.bool true))) ⟨0, []⟩ := by
  have hi : i % 5 < 5 := Nat.mod_lt _ (by decide)
  have hj : j % 3 < 3 := Nat.mod_lt _ (by decide)
  generalize ha : i % 5 = a at hi
  generalize hb : j % 3 = b at hj
  match a, b, hi, hj with
  | 0, 0, _, _ => exact run5_00 i j v ha hb hv
  | 0, 1, _, _ => exact run5_01 i j v ha hb hv
  | 0, 2, _, _ => exact run5_02 i j v ha hb hv
  | 1, 0, _, _ => exact run5_10 i j v ha hb hv
  | 1, 1, _, _ => exact run5_11 i j v ha hb hv
  | 1, 2, _, _ => exact run5_12 i j v ha hb hv
  | 2, 0, _, _ => exact run5_20 i j v ha hb hv
  | 2, 1, _, _ => exact run5_21 i j v ha hb hv
  | 2, 2, _, _ => exact run5_22 i j v ha hb hv
  | 3, 0, _, _ => exact run5_30 i j v ha hb hv
  | 3, 1, _, _ => exact run5_31 i j v ha hb hv
  | 3, 2, _, _ => exact run5_32 i j v ha hb hv
  | 4, 0, _, _ => exact run5_40 i j v ha hb hv
  | 4, 1, _, _ => exact run5_41 i j v ha hb hv
  | 4, 2, _, _ => exact run5_42 i j v ha hb hv
theorem evalPaths_walk (a0 a1 a2 : Int) (W : World) (h0 : 0 ≤ a0) (h0' : a0 < 256) (h1 : 0 ≤ a1) (h1' : a1 < 256) (h2 : 0 ≤ a2) (h2' : a2 < 65536) : Calls Tryz.prog 5 #[.int .u8 a0, .int .u8 a1, .int .u16 a2] W fun e w' => e = .returned (.bool true) ∧ Go.RowKit.Below W.heap.size W w' := by
  obtain ⟨i, rfl⟩ := Int.eq_ofNat_of_zero_le h0
  obtain ⟨j, rfl⟩ := Int.eq_ofNat_of_zero_le h1
  obtain ⟨v, rfl⟩ := Int.eq_ofNat_of_zero_le h2
  have hv : v < 65536 := by omega
  refine (run_nil (run5 i j v hv) W [.int .u8 (.ofNat i), .int .u8 (.ofNat j), .int .u16 (.ofNat v)] (RL.cons (R.p (.int _ _)) (RL.cons (R.p (.int _ _)) (RL.cons (R.p (.int _ _)) .nil)))).mono fun e w' => ?_
  rintro ⟨x, rfl, hE, O, G, n, hr, _⟩
  cases hr with
  | p _ _ h =>
    cases h
    exact ⟨rfl, hE.os, hE.tape, hE.output, hE.size, fun k hk => hE.keep k hk (fun h => h)⟩
end Go.Ab
