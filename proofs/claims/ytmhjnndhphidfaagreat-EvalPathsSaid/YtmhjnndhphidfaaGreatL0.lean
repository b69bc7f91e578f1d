/- ends: what it answers, whatever the words are. The environment in which 'ends' answers by itself. EvalPaths: the law's function, piece by piece. -/
import Derived.Test.YtmhjnndhphidfaaGreatS1
import Derived.Test.YtmhjnndhphidfaaGreatS2
import Derived.Test.YtmhjnndhphidfaaGreatPV1
import Derived.Test.YtmhjnndhphidfaaGreatPV2
import Derived.Test.YtmhjnndhphidfaaGreatPH
namespace Go.Ab
set_option maxRecDepth 30000
set_option linter.unusedSimpArgs false
open Go.Proofs
set_option linter.unusedVariables false
abbrev z2 : List AV := [.p (.int .u16 0), .p (.int .u16 0)]
abbrev e0 : CCode := .reg [⟨.n (.box (.old 0)), none⟩, ⟨.p (.mv (.const (.p (.bool false)))), none⟩] [(4, 1), (13, 0)]
abbrev e1 : CCode := .reg [⟨.p (.fieldA 2 (.old 4)), none⟩, ⟨.p (.load (some 2) (.res 0)), none⟩, ⟨.p (.mv (.old 1)), none⟩, ⟨.p (.mv (.old 2)), none⟩,
  ⟨.p (.build [.p (.int .i64 0), .p (.int .u16 0)] [(0, 1, .res 1), (1, 1, .res 0)]), none⟩, ⟨.p (.eqT [1, 1] .neq (.res 3) (.res 0)), none⟩, ⟨.p (.mv (.res 0)), none⟩,
  ⟨.p (.fieldA 1 (.old 4)), some (.res 0, false)⟩, ⟨.p (.load none (.res 0)), some (.res 1, false)⟩, ⟨.p (.len 1 (.res 0)), some (.res 2, false)⟩, ⟨.p (.mv (.old 3)), some (.res 3, false)⟩,
  ⟨.p (.len 1 (.res 0)), some (.res 4, false)⟩, ⟨.p (.bin 0 .neq (.res 2) (.res 0)), some (.res 5, false)⟩, ⟨.p (.pick (.res 6) (.const (.p (.bool true))) (.res 0)), none⟩] [(5, 0)]
abbrev eF : CCode := .reg [⟨.p (.mv (.const (.p (.bool false)))), none⟩] [(13, 0)]
abbrev e2 : CCode := .reg [⟨.p (.fieldA 1 (.old 4)), none⟩, ⟨.p (.load none (.res 0)), none⟩, ⟨.p (.len 1 (.res 0)), none⟩, ⟨.p (.mv (.const (.p (.int .i64 0)))), none⟩] [(6, 0), (7, 1), (9, 2)]
abbrev eG : CCode := .reg [⟨.p (.bin 0 .lss (.old 6) (.old 7)), none⟩] [(8, 0)]
abbrev eR : CCode := .reg [⟨.p (.mv (.old 6)), none⟩, ⟨.p (.indexA 2 (.old 9) (.old 6)), none⟩, ⟨.p (.load (some 2) (.res 0)), none⟩, ⟨.n (.alloc z2), none⟩, ⟨.p (.mv (.res 3)), none⟩, ⟨.e (.store 2 (.res 1) (.res 2)) false, none⟩] [(10, 2), (11, 1)]
abbrev eD : CCode := .dreg 0 (.node [⟨.p (.load (some 2) (.old 10)), none⟩, ⟨.p (.mv (.old 3)), none⟩, ⟨.p (.mv (.old 11)), none⟩, ⟨.p (.indexA 1 (.res 1) (.res 0)), none⟩, ⟨.p (.load none (.res 0)), none⟩,
  ⟨.p (.build z2 [(0, 1, .const (.p (.int .u16 1))), (1, 1, .res 0)]), none⟩, ⟨.p (.eqT [1, 1] .neq (.res 5) (.res 0)), none⟩, ⟨.fl [0, 1, 2, 3, 4, 5, 6], none⟩] [(12, 0)] [])
abbrev eC : CCode := .cond 12 (.seq eF .ret) .skip
abbrev eI : CCode := .reg [⟨.p (.bin 0 .add (.old 6) (.const (.p (.int .i64 1)))), none⟩, ⟨.p (.mv (.res 0)), none⟩] [(6, 0)]
abbrev eL : CCode := .seq eG (.seq (.cond 8 .skip (.exit 0)) (.seq (.block 1 (.seq eR (.seq eD eC))) eI))
abbrev eE : CCode := .reg [⟨.p (.fieldA 4 (.old 4)), none⟩, ⟨.p (.load none (.res 0)), none⟩, ⟨.p (.len 0 (.res 0)), none⟩, ⟨.p (.bin 0 .eql (.res 0) (.const (.p (.int .i64 8192)))), none⟩, ⟨.p (.mv (.res 0)), none⟩] [(13, 0)]
noncomputable def cEnds : CFunc := ⟨4, 14, .seq e0 (.seq (.seq e1 (.cond 5 (.seq eF .ret) .skip)) (.seq (.seq e2 (.block 0 (.loop eL))) (.seq eE .ret))), [.slot 13]⟩
theorem cEnds_eq : ∃ L fn, Tryz.prog.funcs[10]? = some fn ∧ cFunc Tryz.prog L fn = some cEnds := ⟨0, Tryz.f10, Tryz.func10, by kernel_rfl⟩
theorem seq_n {a b : CCode} {call : Cll} {n : Nat} {fr fr' : Fr} {M M' : Mem} (h : evCode a call n fr M = some (.normal, fr', M')) : evCode (.seq a b) call n fr M = evCode b call n fr' M' := by
  show (ob (evCode a call n fr M) fun r => exCases r.1 (evCode b call n r.2.1 r.2.2) (fun _ => some r) (some r)) = _
  rw [h]
  rfl
theorem seq_ret {a b : CCode} {call : Cll} {n : Nat} {fr fr' : Fr} {M M' : Mem} (h : evCode a call n fr M = some (.ret, fr', M')) : evCode (.seq a b) call n fr M = some (.ret, fr', M') := by
  show (ob (evCode a call n fr M) fun r => exCases r.1 (evCode b call n r.2.1 r.2.2) (fun _ => some r) (some r)) = _
  rw [h]
  rfl
theorem seq_exit {a b : CCode} {call : Cll} {n i : Nat} {fr fr' : Fr} {M M' : Mem} (h : evCode a call n fr M = some (.exit i, fr', M')) : evCode (.seq a b) call n fr M = some (.exit i, fr', M') := by
  show (ob (evCode a call n fr M) fun r => exCases r.1 (evCode b call n r.2.1 r.2.2) (fun _ => some r) (some r)) = _
  rw [h]
  rfl
theorem block_n {b : CCode} {i : Nat} {call : Cll} {n : Nat} {fr fr' : Fr} {M M' : Mem} (h : evCode b call n fr M = some (.normal, fr', M')) : evCode (.block i b) call n fr M = some (.normal, fr', M') := by
  show (ob (evCode b call n fr M) fun r => exCases r.1 (some r) (fun j => bf (Nat.beq j i) (some (.normal, r.2)) (some r)) (some r)) = _
  rw [h]
  rfl
theorem block_ret {b : CCode} {i : Nat} {call : Cll} {n : Nat} {fr fr' : Fr} {M M' : Mem} (h : evCode b call n fr M = some (.ret, fr', M')) : evCode (.block i b) call n fr M = some (.ret, fr', M') := by
  show (ob (evCode b call n fr M) fun r => exCases r.1 (some r) (fun j => bf (Nat.beq j i) (some (.normal, r.2)) (some r)) (some r)) = _
  rw [h]
  rfl
theorem block_loop' {b : CCode} {i : Nat} {call : Cll} {n : Nat} {fr fr' : Fr} {M M' : Mem} (h : loopN n (evCode b call n) fr M = some (.exit i, fr', M')) : evCode (.block i (.loop b)) call n fr M = some (.normal, fr', M') := by
  show (ob (loopN n (evCode b call n) fr M) fun r => exCases r.1 (some r) (fun j => bf (Nat.beq j i) (some (.normal, r.2)) (some r)) (some r)) = _
  rw [h]
  show bf (Nat.beq i i) _ _ = _
  rw [Nat.beq_refl]
theorem loop_n {body : Rn} {n : Nat} {fr fr' : Fr} {M M' : Mem} (h : body fr M = some (.normal, fr', M')) : loopN (n + 1) body fr M = loopN n body fr' M' := by
  show (ob (body fr M) fun r => exCases r.1 (loopN n body r.2.1 r.2.2) (fun _ => some r) (some r)) = _
  rw [h]
  rfl
theorem loop_x {body : Rn} {n i : Nat} {fr fr' : Fr} {M M' : Mem} (h : body fr M = some (.exit i, fr', M')) : loopN (n + 1) body fr M = some (.exit i, fr', M') := by
  show (ob (body fr M) fun r => exCases r.1 (loopN n body r.2.1 r.2.2) (fun _ => some r) (some r)) = _
  rw [h]
  rfl
theorem loop_ret {body : Rn} {n : Nat} {fr fr' : Fr} {M M' : Mem} (h : body fr M = some (.ret, fr', M')) : loopN (n + 1) body fr M = some (.ret, fr', M') := by
  show (ob (body fr M) fun r => exCases r.1 (loopN n body r.2.1 r.2.2) (fun _ => some r) (some r)) = _
  rw [h]
  rfl
/-- Are the words different? -/
noncomputable def difW (x y : Nat) : Bool := nt (bf (beqI 1 1) (bf (beqI (.ofNat x) (.ofNat y)) true false) false)
theorem difW_eq (x y : Nat) : difW x y = !(Nat.beq x y) := by
  show nt (bf (Nat.beq x y) true false) = _
  cases Nat.beq x y <;> rfl
section
variable (call : Cll) (n : Nat) (x y : Nat → Nat) (z : Int) (ram : List Nat) (i1 p1 : Int)

noncomputable def outE : List (List PV) := [[.int .u16 (.ofNat 1), .int .u16 (.ofNat (x 0))], [.int .u16 (.ofNat 1), .int .u16 (.ofNat (x 1))], [.int .u16 (.ofNat 1), .int .u16 (.ofNat (x 2))], [.int .u16 (.ofNat 1), .int .u16 (.ofNat (x 3))], [.int .u16 (.ofNat 1), .int .u16 (.ofNat (x 4))], [.int .u16 (.ofNat 1), .int .u16 (.ofNat (x 5))]]
noncomputable def valE : List (List PV) := [[.int .u16 (.ofNat (y 0))], [.int .u16 (.ofNat (y 1))], [.int .u16 (.ofNat (y 2))], [.int .u16 (.ofNat (y 3))], [.int .u16 (.ofNat (y 4))], [.int .u16 (.ofNat (y 5))]]
noncomputable def runV : PV := .agg [.int .u16 z, .fz (outE x), .int .i64 (.ofNat 6), .int .u16 (.ofNat 0), .str ram, .int .i64 i1, .int .i64 p1]
noncomputable def frE (k : Nat) (a b c d : AV) : Fr := [.p (runV x z ram i1 p1), .p (.int .i64 (.ofNat 6)), .p (.int .u16 (.ofNat 0)), .p (.fz (valE y)), .ptr 0 0 0, .p (.bool false), .p (.int .i64 (.ofNat k)), .p (.int .i64 (.ofNat 6)), a, .p (.fz (outE x)), b, c, d, .p (.bool false)]
noncomputable def frF (k : Nat) (a b c d : AV) (r : Bool) : Fr := [.p (runV x z ram i1 p1), .p (.int .i64 (.ofNat 6)), .p (.int .u16 (.ofNat 0)), .p (.fz (valE y)), .ptr 0 0 0, .p (.bool false), .p (.int .i64 (.ofNat k)), .p (.int .i64 (.ofNat 6)), a, .p (.fz (outE x)), b, c, d, .p (.bool r)]
noncomputable def boxE : Ob := .pr [[.int .u16 z, .fz (outE x), .int .i64 (.ofNat 6), .int .u16 (.ofNat 0), .str ram, .int .i64 i1, .int .i64 p1]]
noncomputable def mE0 : Mem := ⟨1, [(0, boxE x z ram i1 p1)]⟩
noncomputable def mE1 : Mem := ⟨2, [(1, .pr [[.int .u16 (.ofNat 1), .int .u16 (.ofNat (x 0))]]), (0, boxE x z ram i1 p1)]⟩
noncomputable def mE2 : Mem := ⟨3, [(2, .pr [[.int .u16 (.ofNat 1), .int .u16 (.ofNat (x 1))]]), (1, .pr [[.int .u16 (.ofNat 1), .int .u16 (.ofNat (x 0))]]), (0, boxE x z ram i1 p1)]⟩
noncomputable def mE3 : Mem := ⟨4, [(3, .pr [[.int .u16 (.ofNat 1), .int .u16 (.ofNat (x 2))]]), (2, .pr [[.int .u16 (.ofNat 1), .int .u16 (.ofNat (x 1))]]), (1, .pr [[.int .u16 (.ofNat 1), .int .u16 (.ofNat (x 0))]]), (0, boxE x z ram i1 p1)]⟩
noncomputable def mE4 : Mem := ⟨5, [(4, .pr [[.int .u16 (.ofNat 1), .int .u16 (.ofNat (x 3))]]), (3, .pr [[.int .u16 (.ofNat 1), .int .u16 (.ofNat (x 2))]]), (2, .pr [[.int .u16 (.ofNat 1), .int .u16 (.ofNat (x 1))]]), (1, .pr [[.int .u16 (.ofNat 1), .int .u16 (.ofNat (x 0))]]), (0, boxE x z ram i1 p1)]⟩
noncomputable def mE5 : Mem := ⟨6, [(5, .pr [[.int .u16 (.ofNat 1), .int .u16 (.ofNat (x 4))]]), (4, .pr [[.int .u16 (.ofNat 1), .int .u16 (.ofNat (x 3))]]), (3, .pr [[.int .u16 (.ofNat 1), .int .u16 (.ofNat (x 2))]]), (2, .pr [[.int .u16 (.ofNat 1), .int .u16 (.ofNat (x 1))]]), (1, .pr [[.int .u16 (.ofNat 1), .int .u16 (.ofNat (x 0))]]), (0, boxE x z ram i1 p1)]⟩
noncomputable def mE6 : Mem := ⟨7, [(6, .pr [[.int .u16 (.ofNat 1), .int .u16 (.ofNat (x 5))]]), (5, .pr [[.int .u16 (.ofNat 1), .int .u16 (.ofNat (x 4))]]), (4, .pr [[.int .u16 (.ofNat 1), .int .u16 (.ofNat (x 3))]]), (3, .pr [[.int .u16 (.ofNat 1), .int .u16 (.ofNat (x 2))]]), (2, .pr [[.int .u16 (.ofNat 1), .int .u16 (.ofNat (x 1))]]), (1, .pr [[.int .u16 (.ofNat 1), .int .u16 (.ofNat (x 0))]]), (0, boxE x z ram i1 p1)]⟩
theorem ddE0 (a c d : AV) : evCode eD call n (frE x y z ram i1 p1 0 a (.ptr 1 0 0) (.p (.int .i64 (.ofNat 0))) d) (mE1 x z ram i1 p1) = some (.normal, frE x y z ram i1 p1 0 a (.ptr 1 0 0) (.p (.int .i64 (.ofNat 0))) (.p (.bool (difW (x 0) (y 0)))), mE1 x z ram i1 p1) := by kernel_rfl
theorem ddE1 (a c d : AV) : evCode eD call n (frE x y z ram i1 p1 1 a (.ptr 2 0 0) (.p (.int .i64 (.ofNat 1))) d) (mE2 x z ram i1 p1) = some (.normal, frE x y z ram i1 p1 1 a (.ptr 2 0 0) (.p (.int .i64 (.ofNat 1))) (.p (.bool (difW (x 1) (y 1)))), mE2 x z ram i1 p1) := by kernel_rfl
theorem ddE2 (a c d : AV) : evCode eD call n (frE x y z ram i1 p1 2 a (.ptr 3 0 0) (.p (.int .i64 (.ofNat 2))) d) (mE3 x z ram i1 p1) = some (.normal, frE x y z ram i1 p1 2 a (.ptr 3 0 0) (.p (.int .i64 (.ofNat 2))) (.p (.bool (difW (x 2) (y 2)))), mE3 x z ram i1 p1) := by kernel_rfl
theorem ddE3 (a c d : AV) : evCode eD call n (frE x y z ram i1 p1 3 a (.ptr 4 0 0) (.p (.int .i64 (.ofNat 3))) d) (mE4 x z ram i1 p1) = some (.normal, frE x y z ram i1 p1 3 a (.ptr 4 0 0) (.p (.int .i64 (.ofNat 3))) (.p (.bool (difW (x 3) (y 3)))), mE4 x z ram i1 p1) := by kernel_rfl
theorem ddE4 (a c d : AV) : evCode eD call n (frE x y z ram i1 p1 4 a (.ptr 5 0 0) (.p (.int .i64 (.ofNat 4))) d) (mE5 x z ram i1 p1) = some (.normal, frE x y z ram i1 p1 4 a (.ptr 5 0 0) (.p (.int .i64 (.ofNat 4))) (.p (.bool (difW (x 4) (y 4)))), mE5 x z ram i1 p1) := by kernel_rfl
theorem ddE5 (a c d : AV) : evCode eD call n (frE x y z ram i1 p1 5 a (.ptr 6 0 0) (.p (.int .i64 (.ofNat 5))) d) (mE6 x z ram i1 p1) = some (.normal, frE x y z ram i1 p1 5 a (.ptr 6 0 0) (.p (.int .i64 (.ofNat 5))) (.p (.bool (difW (x 5) (y 5)))), mE6 x z ram i1 p1) := by kernel_rfl
theorem gGE0 (a b c d : AV) : evCode eG call n (frE x y z ram i1 p1 0 a b c d) (mE0 x z ram i1 p1) = some (.normal, frE x y z ram i1 p1 0 (.p (.bool true)) b c d, mE0 x z ram i1 p1) := by kernel_rfl
theorem rE0 (a b c d : AV) : evCode eR call n (frE x y z ram i1 p1 0 a b c d) (mE0 x z ram i1 p1) = some (.normal, frE x y z ram i1 p1 0 a (.ptr 1 0 0) (.p (.int .i64 (.ofNat 0))) d, mE1 x z ram i1 p1) := by kernel_rfl
theorem goE0 (h : difW (x 0) (y 0) = false) (a b c d : AV) : evCode eL call n (frE x y z ram i1 p1 0 a b c d) (mE0 x z ram i1 p1) = some (.normal, frE x y z ram i1 p1 1 (.p (.bool true)) (.ptr 1 0 0) (.p (.int .i64 (.ofNat 0))) (.p (.bool false)), mE1 x z ram i1 p1) := by
  rw [seq_n (gGE0 call n x y z ram i1 p1 a b c d)]
  have h1 : evCode (.cond 8 .skip (.exit 0)) call n (frE x y z ram i1 p1 0 (.p (.bool true)) b c d) (mE0 x z ram i1 p1) = some (.normal, frE x y z ram i1 p1 0 (.p (.bool true)) b c d, mE0 x z ram i1 p1) := by kernel_rfl
  rw [seq_n h1]
  have h2 : evCode (.block 1 (.seq eR (.seq eD eC))) call n (frE x y z ram i1 p1 0 (.p (.bool true)) b c d) (mE0 x z ram i1 p1) = some (.normal, frE x y z ram i1 p1 0 (.p (.bool true)) (.ptr 1 0 0) (.p (.int .i64 (.ofNat 0))) (.p (.bool false)), mE1 x z ram i1 p1) := by
    refine block_n ?_
    rw [seq_n (rE0 call n x y z ram i1 p1 _ b c d), seq_n (ddE0 call n x y z ram i1 p1 _ d d), h]
    kernel_rfl
  exact (seq_n h2).trans (by kernel_rfl)
theorem noE0 (h : difW (x 0) (y 0) = true) (a b c d : AV) : evCode eL call n (frE x y z ram i1 p1 0 a b c d) (mE0 x z ram i1 p1) = some (.ret, frF x y z ram i1 p1 0 (.p (.bool true)) (.ptr 1 0 0) (.p (.int .i64 (.ofNat 0))) (.p (.bool true)) false, mE1 x z ram i1 p1) := by
  rw [seq_n (gGE0 call n x y z ram i1 p1 a b c d)]
  have h1 : evCode (.cond 8 .skip (.exit 0)) call n (frE x y z ram i1 p1 0 (.p (.bool true)) b c d) (mE0 x z ram i1 p1) = some (.normal, frE x y z ram i1 p1 0 (.p (.bool true)) b c d, mE0 x z ram i1 p1) := by kernel_rfl
  rw [seq_n h1]
  refine seq_ret (block_ret ?_)
  rw [seq_n (rE0 call n x y z ram i1 p1 _ b c d), seq_n (ddE0 call n x y z ram i1 p1 _ d d), h]
  kernel_rfl
theorem gGE1 (a b c d : AV) : evCode eG call n (frE x y z ram i1 p1 1 a b c d) (mE1 x z ram i1 p1) = some (.normal, frE x y z ram i1 p1 1 (.p (.bool true)) b c d, mE1 x z ram i1 p1) := by kernel_rfl
theorem rE1 (a b c d : AV) : evCode eR call n (frE x y z ram i1 p1 1 a b c d) (mE1 x z ram i1 p1) = some (.normal, frE x y z ram i1 p1 1 a (.ptr 2 0 0) (.p (.int .i64 (.ofNat 1))) d, mE2 x z ram i1 p1) := by kernel_rfl
theorem goE1 (h : difW (x 1) (y 1) = false) (a b c d : AV) : evCode eL call n (frE x y z ram i1 p1 1 a b c d) (mE1 x z ram i1 p1) = some (.normal, frE x y z ram i1 p1 2 (.p (.bool true)) (.ptr 2 0 0) (.p (.int .i64 (.ofNat 1))) (.p (.bool false)), mE2 x z ram i1 p1) := by
  rw [seq_n (gGE1 call n x y z ram i1 p1 a b c d)]
  have h1 : evCode (.cond 8 .skip (.exit 0)) call n (frE x y z ram i1 p1 1 (.p (.bool true)) b c d) (mE1 x z ram i1 p1) = some (.normal, frE x y z ram i1 p1 1 (.p (.bool true)) b c d, mE1 x z ram i1 p1) := by kernel_rfl
  rw [seq_n h1]
  have h2 : evCode (.block 1 (.seq eR (.seq eD eC))) call n (frE x y z ram i1 p1 1 (.p (.bool true)) b c d) (mE1 x z ram i1 p1) = some (.normal, frE x y z ram i1 p1 1 (.p (.bool true)) (.ptr 2 0 0) (.p (.int .i64 (.ofNat 1))) (.p (.bool false)), mE2 x z ram i1 p1) := by
    refine block_n ?_
    rw [seq_n (rE1 call n x y z ram i1 p1 _ b c d), seq_n (ddE1 call n x y z ram i1 p1 _ d d), h]
    kernel_rfl
  exact (seq_n h2).trans (by kernel_rfl)
theorem noE1 (h : difW (x 1) (y 1) = true) (a b c d : AV) : evCode eL call n (frE x y z ram i1 p1 1 a b c d) (mE1 x z ram i1 p1) = some (.ret, frF x y z ram i1 p1 1 (.p (.bool true)) (.ptr 2 0 0) (.p (.int .i64 (.ofNat 1))) (.p (.bool true)) false, mE2 x z ram i1 p1) := by
  rw [seq_n (gGE1 call n x y z ram i1 p1 a b c d)]
  have h1 : evCode (.cond 8 .skip (.exit 0)) call n (frE x y z ram i1 p1 1 (.p (.bool true)) b c d) (mE1 x z ram i1 p1) = some (.normal, frE x y z ram i1 p1 1 (.p (.bool true)) b c d, mE1 x z ram i1 p1) := by kernel_rfl
  rw [seq_n h1]
  refine seq_ret (block_ret ?_)
  rw [seq_n (rE1 call n x y z ram i1 p1 _ b c d), seq_n (ddE1 call n x y z ram i1 p1 _ d d), h]
  kernel_rfl
theorem gGE2 (a b c d : AV) : evCode eG call n (frE x y z ram i1 p1 2 a b c d) (mE2 x z ram i1 p1) = some (.normal, frE x y z ram i1 p1 2 (.p (.bool true)) b c d, mE2 x z ram i1 p1) := by kernel_rfl
theorem rE2 (a b c d : AV) : evCode eR call n (frE x y z ram i1 p1 2 a b c d) (mE2 x z ram i1 p1) = some (.normal, frE x y z ram i1 p1 2 a (.ptr 3 0 0) (.p (.int .i64 (.ofNat 2))) d, mE3 x z ram i1 p1) := by kernel_rfl
theorem goE2 (h : difW (x 2) (y 2) = false) (a b c d : AV) : evCode eL call n (frE x y z ram i1 p1 2 a b c d) (mE2 x z ram i1 p1) = some (.normal, frE x y z ram i1 p1 3 (.p (.bool true)) (.ptr 3 0 0) (.p (.int .i64 (.ofNat 2))) (.p (.bool false)), mE3 x z ram i1 p1) := by
  rw [seq_n (gGE2 call n x y z ram i1 p1 a b c d)]
  have h1 : evCode (.cond 8 .skip (.exit 0)) call n (frE x y z ram i1 p1 2 (.p (.bool true)) b c d) (mE2 x z ram i1 p1) = some (.normal, frE x y z ram i1 p1 2 (.p (.bool true)) b c d, mE2 x z ram i1 p1) := by kernel_rfl
  rw [seq_n h1]
  have h2 : evCode (.block 1 (.seq eR (.seq eD eC))) call n (frE x y z ram i1 p1 2 (.p (.bool true)) b c d) (mE2 x z ram i1 p1) = some (.normal, frE x y z ram i1 p1 2 (.p (.bool true)) (.ptr 3 0 0) (.p (.int .i64 (.ofNat 2))) (.p (.bool false)), mE3 x z ram i1 p1) := by
    refine block_n ?_
    rw [seq_n (rE2 call n x y z ram i1 p1 _ b c d), seq_n (ddE2 call n x y z ram i1 p1 _ d d), h]
    kernel_rfl
  exact (seq_n h2).trans (by kernel_rfl)
theorem noE2 (h : difW (x 2) (y 2) = true) (a b c d : AV) : evCode eL call n (frE x y z ram i1 p1 2 a b c d) (mE2 x z ram i1 p1) = some (.ret, frF x y z ram i1 p1 2 (.p (.bool true)) (.ptr 3 0 0) (.p (.int .i64 (.ofNat 2))) (.p (.bool true)) false, mE3 x z ram i1 p1) := by
  rw [seq_n (gGE2 call n x y z ram i1 p1 a b c d)]
  have h1 : evCode (.cond 8 .skip (.exit 0)) call n (frE x y z ram i1 p1 2 (.p (.bool true)) b c d) (mE2 x z ram i1 p1) = some (.normal, frE x y z ram i1 p1 2 (.p (.bool true)) b c d, mE2 x z ram i1 p1) := by kernel_rfl
  rw [seq_n h1]
  refine seq_ret (block_ret ?_)
  rw [seq_n (rE2 call n x y z ram i1 p1 _ b c d), seq_n (ddE2 call n x y z ram i1 p1 _ d d), h]
  kernel_rfl
theorem gGE3 (a b c d : AV) : evCode eG call n (frE x y z ram i1 p1 3 a b c d) (mE3 x z ram i1 p1) = some (.normal, frE x y z ram i1 p1 3 (.p (.bool true)) b c d, mE3 x z ram i1 p1) := by kernel_rfl
theorem rE3 (a b c d : AV) : evCode eR call n (frE x y z ram i1 p1 3 a b c d) (mE3 x z ram i1 p1) = some (.normal, frE x y z ram i1 p1 3 a (.ptr 4 0 0) (.p (.int .i64 (.ofNat 3))) d, mE4 x z ram i1 p1) := by kernel_rfl
theorem goE3 (h : difW (x 3) (y 3) = false) (a b c d : AV) : evCode eL call n (frE x y z ram i1 p1 3 a b c d) (mE3 x z ram i1 p1) = some (.normal, frE x y z ram i1 p1 4 (.p (.bool true)) (.ptr 4 0 0) (.p (.int .i64 (.ofNat 3))) (.p (.bool false)), mE4 x z ram i1 p1) := by
  rw [seq_n (gGE3 call n x y z ram i1 p1 a b c d)]
  have h1 : evCode (.cond 8 .skip (.exit 0)) call n (frE x y z ram i1 p1 3 (.p (.bool true)) b c d) (mE3 x z ram i1 p1) = some (.normal, frE x y z ram i1 p1 3 (.p (.bool true)) b c d, mE3 x z ram i1 p1) := by kernel_rfl
  rw [seq_n h1]
  have h2 : evCode (.block 1 (.seq eR (.seq eD eC))) call n (frE x y z ram i1 p1 3 (.p (.bool true)) b c d) (mE3 x z ram i1 p1) = some (.normal, frE x y z ram i1 p1 3 (.p (.bool true)) (.ptr 4 0 0) (.p (.int .i64 (.ofNat 3))) (.p (.bool false)), mE4 x z ram i1 p1) := by
    refine block_n ?_
    rw [seq_n (rE3 call n x y z ram i1 p1 _ b c d), seq_n (ddE3 call n x y z ram i1 p1 _ d d), h]
    kernel_rfl
  exact (seq_n h2).trans (by kernel_rfl)
theorem noE3 (h : difW (x 3) (y 3) = true) (a b c d : AV) : evCode eL call n (frE x y z ram i1 p1 3 a b c d) (mE3 x z ram i1 p1) = some (.ret, frF x y z ram i1 p1 3 (.p (.bool true)) (.ptr 4 0 0) (.p (.int .i64 (.ofNat 3))) (.p (.bool true)) false, mE4 x z ram i1 p1) := by
  rw [seq_n (gGE3 call n x y z ram i1 p1 a b c d)]
  have h1 : evCode (.cond 8 .skip (.exit 0)) call n (frE x y z ram i1 p1 3 (.p (.bool true)) b c d) (mE3 x z ram i1 p1) = some (.normal, frE x y z ram i1 p1 3 (.p (.bool true)) b c d, mE3 x z ram i1 p1) := by kernel_rfl
  rw [seq_n h1]
  refine seq_ret (block_ret ?_)
  rw [seq_n (rE3 call n x y z ram i1 p1 _ b c d), seq_n (ddE3 call n x y z ram i1 p1 _ d d), h]
  kernel_rfl
theorem gGE4 (a b c d : AV) : evCode eG call n (frE x y z ram i1 p1 4 a b c d) (mE4 x z ram i1 p1) = some (.normal, frE x y z ram i1 p1 4 (.p (.bool true)) b c d, mE4 x z ram i1 p1) := by kernel_rfl
theorem rE4 (a b c d : AV) : evCode eR call n (frE x y z ram i1 p1 4 a b c d) (mE4 x z ram i1 p1) = some (.normal, frE x y z ram i1 p1 4 a (.ptr 5 0 0) (.p (.int .i64 (.ofNat 4))) d, mE5 x z ram i1 p1) := by kernel_rfl
theorem goE4 (h : difW (x 4) (y 4) = false) (a b c d : AV) : evCode eL call n (frE x y z ram i1 p1 4 a b c d) (mE4 x z ram i1 p1) = some (.normal, frE x y z ram i1 p1 5 (.p (.bool true)) (.ptr 5 0 0) (.p (.int .i64 (.ofNat 4))) (.p (.bool false)), mE5 x z ram i1 p1) := by
  rw [seq_n (gGE4 call n x y z ram i1 p1 a b c d)]
  have h1 : evCode (.cond 8 .skip (.exit 0)) call n (frE x y z ram i1 p1 4 (.p (.bool true)) b c d) (mE4 x z ram i1 p1) = some (.normal, frE x y z ram i1 p1 4 (.p (.bool true)) b c d, mE4 x z ram i1 p1) := by kernel_rfl
  rw [seq_n h1]
  have h2 : evCode (.block 1 (.seq eR (.seq eD eC))) call n (frE x y z ram i1 p1 4 (.p (.bool true)) b c d) (mE4 x z ram i1 p1) = some (.normal, frE x y z ram i1 p1 4 (.p (.bool true)) (.ptr 5 0 0) (.p (.int .i64 (.ofNat 4))) (.p (.bool false)), mE5 x z ram i1 p1) := by
    refine block_n ?_
    rw [seq_n (rE4 call n x y z ram i1 p1 _ b c d), seq_n (ddE4 call n x y z ram i1 p1 _ d d), h]
    kernel_rfl
  exact (seq_n h2).trans (by kernel_rfl)
theorem noE4 (h : difW (x 4) (y 4) = true) (a b c d : AV) : evCode eL call n (frE x y z ram i1 p1 4 a b c d) (mE4 x z ram i1 p1) = some (.ret, frF x y z ram i1 p1 4 (.p (.bool true)) (.ptr 5 0 0) (.p (.int .i64 (.ofNat 4))) (.p (.bool true)) false, mE5 x z ram i1 p1) := by
  rw [seq_n (gGE4 call n x y z ram i1 p1 a b c d)]
  have h1 : evCode (.cond 8 .skip (.exit 0)) call n (frE x y z ram i1 p1 4 (.p (.bool true)) b c d) (mE4 x z ram i1 p1) = some (.normal, frE x y z ram i1 p1 4 (.p (.bool true)) b c d, mE4 x z ram i1 p1) := by kernel_rfl
  rw [seq_n h1]
  refine seq_ret (block_ret ?_)
  rw [seq_n (rE4 call n x y z ram i1 p1 _ b c d), seq_n (ddE4 call n x y z ram i1 p1 _ d d), h]
  kernel_rfl
theorem gGE5 (a b c d : AV) : evCode eG call n (frE x y z ram i1 p1 5 a b c d) (mE5 x z ram i1 p1) = some (.normal, frE x y z ram i1 p1 5 (.p (.bool true)) b c d, mE5 x z ram i1 p1) := by kernel_rfl
theorem rE5 (a b c d : AV) : evCode eR call n (frE x y z ram i1 p1 5 a b c d) (mE5 x z ram i1 p1) = some (.normal, frE x y z ram i1 p1 5 a (.ptr 6 0 0) (.p (.int .i64 (.ofNat 5))) d, mE6 x z ram i1 p1) := by kernel_rfl
theorem goE5 (h : difW (x 5) (y 5) = false) (a b c d : AV) : evCode eL call n (frE x y z ram i1 p1 5 a b c d) (mE5 x z ram i1 p1) = some (.normal, frE x y z ram i1 p1 6 (.p (.bool true)) (.ptr 6 0 0) (.p (.int .i64 (.ofNat 5))) (.p (.bool false)), mE6 x z ram i1 p1) := by
  rw [seq_n (gGE5 call n x y z ram i1 p1 a b c d)]
  have h1 : evCode (.cond 8 .skip (.exit 0)) call n (frE x y z ram i1 p1 5 (.p (.bool true)) b c d) (mE5 x z ram i1 p1) = some (.normal, frE x y z ram i1 p1 5 (.p (.bool true)) b c d, mE5 x z ram i1 p1) := by kernel_rfl
  rw [seq_n h1]
  have h2 : evCode (.block 1 (.seq eR (.seq eD eC))) call n (frE x y z ram i1 p1 5 (.p (.bool true)) b c d) (mE5 x z ram i1 p1) = some (.normal, frE x y z ram i1 p1 5 (.p (.bool true)) (.ptr 6 0 0) (.p (.int .i64 (.ofNat 5))) (.p (.bool false)), mE6 x z ram i1 p1) := by
    refine block_n ?_
    rw [seq_n (rE5 call n x y z ram i1 p1 _ b c d), seq_n (ddE5 call n x y z ram i1 p1 _ d d), h]
    kernel_rfl
  exact (seq_n h2).trans (by kernel_rfl)
theorem noE5 (h : difW (x 5) (y 5) = true) (a b c d : AV) : evCode eL call n (frE x y z ram i1 p1 5 a b c d) (mE5 x z ram i1 p1) = some (.ret, frF x y z ram i1 p1 5 (.p (.bool true)) (.ptr 6 0 0) (.p (.int .i64 (.ofNat 5))) (.p (.bool true)) false, mE6 x z ram i1 p1) := by
  rw [seq_n (gGE5 call n x y z ram i1 p1 a b c d)]
  have h1 : evCode (.cond 8 .skip (.exit 0)) call n (frE x y z ram i1 p1 5 (.p (.bool true)) b c d) (mE5 x z ram i1 p1) = some (.normal, frE x y z ram i1 p1 5 (.p (.bool true)) b c d, mE5 x z ram i1 p1) := by kernel_rfl
  rw [seq_n h1]
  refine seq_ret (block_ret ?_)
  rw [seq_n (rE5 call n x y z ram i1 p1 _ b c d), seq_n (ddE5 call n x y z ram i1 p1 _ d d), h]
  kernel_rfl
/-- Are all events as wanted? -/
noncomputable def allE : Bool := bf (difW (x 0) (y 0)) false (bf (difW (x 1) (y 1)) false (bf (difW (x 2) (y 2)) false (bf (difW (x 3) (y 3)) false (bf (difW (x 4) (y 4)) false (bf (difW (x 5) (y 5)) false (beqI (.ofNat (len ram)) (.ofNat 8192)))))))
noncomputable def aE : List AV := [.p (runV x z ram i1 p1), .p (.int .i64 (.ofNat 6)), .p (.int .u16 (.ofNat 0)), .p (.fz (valE y))]
theorem p0E : evCode e0 call n (app (aE x y z ram i1 p1) (List.replicate 10 undefA)) ⟨0, []⟩ = some (.normal, [.p (runV x z ram i1 p1), .p (.int .i64 (.ofNat 6)), .p (.int .u16 (.ofNat 0)), .p (.fz (valE y)), .ptr 0 0 0, undefA, undefA, undefA, undefA, undefA, undefA, undefA, undefA, .p (.bool false)], mE0 x z ram i1 p1) := by kernel_rfl
theorem p1E : evCode (.seq e1 (.cond 5 (.seq eF .ret) .skip)) call n [.p (runV x z ram i1 p1), .p (.int .i64 (.ofNat 6)), .p (.int .u16 (.ofNat 0)), .p (.fz (valE y)), .ptr 0 0 0, undefA, undefA, undefA, undefA, undefA, undefA, undefA, undefA, .p (.bool false)] (mE0 x z ram i1 p1) =
    some (.normal, [.p (runV x z ram i1 p1), .p (.int .i64 (.ofNat 6)), .p (.int .u16 (.ofNat 0)), .p (.fz (valE y)), .ptr 0 0 0, .p (.bool false), undefA, undefA, undefA, undefA, undefA, undefA, undefA, .p (.bool false)], mE0 x z ram i1 p1) := by kernel_rfl
theorem p2E : evCode e2 call n [.p (runV x z ram i1 p1), .p (.int .i64 (.ofNat 6)), .p (.int .u16 (.ofNat 0)), .p (.fz (valE y)), .ptr 0 0 0, .p (.bool false), undefA, undefA, undefA, undefA, undefA, undefA, undefA, .p (.bool false)] (mE0 x z ram i1 p1) =
    some (.normal, frE x y z ram i1 p1 0 undefA undefA undefA undefA, mE0 x z ram i1 p1) := by kernel_rfl
theorem lastE (a b c d : AV) : evCode eL call n (frE x y z ram i1 p1 6 a b c d) (mE6 x z ram i1 p1) = some (.exit 0, frE x y z ram i1 p1 6 (.p (.bool false)) b c d, mE6 x z ram i1 p1) := by kernel_rfl
theorem tailE (a b c d : AV) : evCode (.seq eE .ret) call n (frE x y z ram i1 p1 6 a b c d) (mE6 x z ram i1 p1) = some (.ret, frF x y z ram i1 p1 6 a b c d (beqI (.ofNat (len ram)) (.ofNat 8192)), mE6 x z ram i1 p1) := by kernel_rfl
/-- The end of the function, out of its loop. -/
theorem outE_ret (frz : Bool) {fr' : Fr} {M' : Mem} (h : loopN (n + 7) (evCode eL call (n + 7)) (frE x y z ram i1 p1 0 undefA undefA undefA undefA) (mE0 x z ram i1 p1) = some (.ret, fr', M')) :
    evFun call (n + 7) frz cEnds (aE x y z ram i1 p1) ⟨0, []⟩ = ob (evRes [.slot 13] fr' M'.objs) fun vs => ob (leave frz 0 (resV vs) M') fun x => some (.ret x.1, x.2) := by
  have hb : evCode (.block 0 (.loop eL)) call (n + 7) (frE x y z ram i1 p1 0 undefA undefA undefA undefA) (mE0 x z ram i1 p1) = some (.ret, fr', M') := by
    show (ob (loopN (n + 7) (evCode eL call (n + 7)) (frE x y z ram i1 p1 0 undefA undefA undefA undefA) (mE0 x z ram i1 p1)) fun r => exCases r.1 (some r) (fun j => bf (Nat.beq j 0) (some (.normal, r.2)) (some r)) (some r)) = _
    rw [h]
    rfl
  show (ob (evCode (.seq e0 (.seq (.seq e1 (.cond 5 (.seq eF .ret) .skip)) (.seq (.seq e2 (.block 0 (.loop eL))) (.seq eE .ret)))) call (n + 7) (app (aE x y z ram i1 p1) (List.replicate 10 undefA)) ⟨0, []⟩) fun r => _) = _
  rw [seq_n (p0E call (n + 7) x y z ram i1 p1), seq_n (p1E call (n + 7) x y z ram i1 p1), seq_ret ((seq_n (p2E call (n + 7) x y z ram i1 p1)).trans hb)]
  rfl
theorem outE_exit (frz : Bool) {a b c d : AV} (h : loopN (n + 7) (evCode eL call (n + 7)) (frE x y z ram i1 p1 0 undefA undefA undefA undefA) (mE0 x z ram i1 p1) = some (.exit 0, frE x y z ram i1 p1 6 a b c d, mE6 x z ram i1 p1)) :
    evFun call (n + 7) frz cEnds (aE x y z ram i1 p1) ⟨0, []⟩ = ob (evRes [.slot 13] (frF x y z ram i1 p1 6 a b c d (beqI (.ofNat (len ram)) (.ofNat 8192))) (mE6 x z ram i1 p1).objs) fun vs => ob (leave frz 0 (resV vs) (mE6 x z ram i1 p1)) fun x => some (.ret x.1, x.2) := by
  show (ob (evCode (.seq e0 (.seq (.seq e1 (.cond 5 (.seq eF .ret) .skip)) (.seq (.seq e2 (.block 0 (.loop eL))) (.seq eE .ret)))) call (n + 7) (app (aE x y z ram i1 p1) (List.replicate 10 undefA)) ⟨0, []⟩) fun r => _) = _
  rw [seq_n (p0E call (n + 7) x y z ram i1 p1), seq_n (p1E call (n + 7) x y z ram i1 p1), seq_n ((seq_n (p2E call (n + 7) x y z ram i1 p1)).trans (block_loop' h)), tailE call (n + 7) x y z ram i1 p1]
  rfl
theorem endE (k : Nat) (a b c d : AV) (r : Bool) (M : Mem) : (ob (evRes [.slot 13] (frF x y z ram i1 p1 k a b c d r) M.objs) fun vs => ob (leave true 0 (resV vs) M) fun x => some ((Rs.ret x.1 : Rs), x.2)) = ob (leave true 0 (.p (.bool r)) M) fun x => some ((Rs.ret x.1 : Rs), x.2) := by kernel_rfl
theorem lvE1 (r : Bool) : (ob (leave true 0 (.p (.bool r)) (mE1 x z ram i1 p1)) fun x => some ((.ret x.1 : Rs), x.2)) = some (.ret (.p (.bool r)), ⟨0, []⟩) := by kernel_rfl
theorem lvE2 (r : Bool) : (ob (leave true 0 (.p (.bool r)) (mE2 x z ram i1 p1)) fun x => some ((.ret x.1 : Rs), x.2)) = some (.ret (.p (.bool r)), ⟨0, []⟩) := by kernel_rfl
theorem lvE3 (r : Bool) : (ob (leave true 0 (.p (.bool r)) (mE3 x z ram i1 p1)) fun x => some ((.ret x.1 : Rs), x.2)) = some (.ret (.p (.bool r)), ⟨0, []⟩) := by kernel_rfl
theorem lvE4 (r : Bool) : (ob (leave true 0 (.p (.bool r)) (mE4 x z ram i1 p1)) fun x => some ((.ret x.1 : Rs), x.2)) = some (.ret (.p (.bool r)), ⟨0, []⟩) := by kernel_rfl
theorem lvE5 (r : Bool) : (ob (leave true 0 (.p (.bool r)) (mE5 x z ram i1 p1)) fun x => some ((.ret x.1 : Rs), x.2)) = some (.ret (.p (.bool r)), ⟨0, []⟩) := by kernel_rfl
theorem lvE6 (r : Bool) : (ob (leave true 0 (.p (.bool r)) (mE6 x z ram i1 p1)) fun x => some ((.ret x.1 : Rs), x.2)) = some (.ret (.p (.bool r)), ⟨0, []⟩) := by kernel_rfl
theorem endsE : evFun call (n + 7) true cEnds (aE x y z ram i1 p1) ⟨0, []⟩ = some (.ret (.p (.bool (allE x y ram))), ⟨0, []⟩) := by
  unfold allE
  cases h0 : difW (x 0) (y 0)
  case true =>
    have hl : loopN (n + 7) (evCode eL call (n + 7)) (frE x y z ram i1 p1 0 undefA undefA undefA undefA) (mE0 x z ram i1 p1) = some (.ret, frF x y z ram i1 p1 0 (.p (.bool true)) (.ptr 1 0 0) (.p (.int .i64 (.ofNat 0))) (.p (.bool true)) false, mE1 x z ram i1 p1) := by
      rw [loop_ret (noE0 call _ x y z ram i1 p1 h0 _ _ _ _)]
    rw [outE_ret call n x y z ram i1 p1 true hl, endE, lvE1]
    try rfl
  cases h1 : difW (x 1) (y 1)
  case true =>
    have hl : loopN (n + 7) (evCode eL call (n + 7)) (frE x y z ram i1 p1 0 undefA undefA undefA undefA) (mE0 x z ram i1 p1) = some (.ret, frF x y z ram i1 p1 1 (.p (.bool true)) (.ptr 2 0 0) (.p (.int .i64 (.ofNat 1))) (.p (.bool true)) false, mE2 x z ram i1 p1) := by
      rw [loop_n (goE0 call _ x y z ram i1 p1 h0 _ _ _ _), loop_ret (noE1 call _ x y z ram i1 p1 h1 _ _ _ _)]
    rw [outE_ret call n x y z ram i1 p1 true hl, endE, lvE2]
    try rfl
  cases h2 : difW (x 2) (y 2)
  case true =>
    have hl : loopN (n + 7) (evCode eL call (n + 7)) (frE x y z ram i1 p1 0 undefA undefA undefA undefA) (mE0 x z ram i1 p1) = some (.ret, frF x y z ram i1 p1 2 (.p (.bool true)) (.ptr 3 0 0) (.p (.int .i64 (.ofNat 2))) (.p (.bool true)) false, mE3 x z ram i1 p1) := by
      rw [loop_n (goE0 call _ x y z ram i1 p1 h0 _ _ _ _), loop_n (goE1 call _ x y z ram i1 p1 h1 _ _ _ _), loop_ret (noE2 call _ x y z ram i1 p1 h2 _ _ _ _)]
    rw [outE_ret call n x y z ram i1 p1 true hl, endE, lvE3]
    try rfl
  cases h3 : difW (x 3) (y 3)
  case true =>
    have hl : loopN (n + 7) (evCode eL call (n + 7)) (frE x y z ram i1 p1 0 undefA undefA undefA undefA) (mE0 x z ram i1 p1) = some (.ret, frF x y z ram i1 p1 3 (.p (.bool true)) (.ptr 4 0 0) (.p (.int .i64 (.ofNat 3))) (.p (.bool true)) false, mE4 x z ram i1 p1) := by
      rw [loop_n (goE0 call _ x y z ram i1 p1 h0 _ _ _ _), loop_n (goE1 call _ x y z ram i1 p1 h1 _ _ _ _), loop_n (goE2 call _ x y z ram i1 p1 h2 _ _ _ _), loop_ret (noE3 call _ x y z ram i1 p1 h3 _ _ _ _)]
    rw [outE_ret call n x y z ram i1 p1 true hl, endE, lvE4]
    try rfl
  cases h4 : difW (x 4) (y 4)
  case true =>
    have hl : loopN (n + 7) (evCode eL call (n + 7)) (frE x y z ram i1 p1 0 undefA undefA undefA undefA) (mE0 x z ram i1 p1) = some (.ret, frF x y z ram i1 p1 4 (.p (.bool true)) (.ptr 5 0 0) (.p (.int .i64 (.ofNat 4))) (.p (.bool true)) false, mE5 x z ram i1 p1) := by
      rw [loop_n (goE0 call _ x y z ram i1 p1 h0 _ _ _ _), loop_n (goE1 call _ x y z ram i1 p1 h1 _ _ _ _), loop_n (goE2 call _ x y z ram i1 p1 h2 _ _ _ _), loop_n (goE3 call _ x y z ram i1 p1 h3 _ _ _ _), loop_ret (noE4 call _ x y z ram i1 p1 h4 _ _ _ _)]
    rw [outE_ret call n x y z ram i1 p1 true hl, endE, lvE5]
    try rfl
  cases h5 : difW (x 5) (y 5)
  case true =>
    have hl : loopN (n + 7) (evCode eL call (n + 7)) (frE x y z ram i1 p1 0 undefA undefA undefA undefA) (mE0 x z ram i1 p1) = some (.ret, frF x y z ram i1 p1 5 (.p (.bool true)) (.ptr 6 0 0) (.p (.int .i64 (.ofNat 5))) (.p (.bool true)) false, mE6 x z ram i1 p1) := by
      rw [loop_n (goE0 call _ x y z ram i1 p1 h0 _ _ _ _), loop_n (goE1 call _ x y z ram i1 p1 h1 _ _ _ _), loop_n (goE2 call _ x y z ram i1 p1 h2 _ _ _ _), loop_n (goE3 call _ x y z ram i1 p1 h3 _ _ _ _), loop_n (goE4 call _ x y z ram i1 p1 h4 _ _ _ _), loop_ret (noE5 call _ x y z ram i1 p1 h5 _ _ _ _)]
    rw [outE_ret call n x y z ram i1 p1 true hl, endE, lvE6]
    try rfl
  have hl : loopN (n + 7) (evCode eL call (n + 7)) (frE x y z ram i1 p1 0 undefA undefA undefA undefA) (mE0 x z ram i1 p1) = some (.exit 0, frE x y z ram i1 p1 6 (.p (.bool false)) (.ptr 6 0 0) (.p (.int .i64 (.ofNat 5))) (.p (.bool false)), mE6 x z ram i1 p1) := by
    rw [loop_n (goE0 call _ x y z ram i1 p1 h0 _ _ _ _), loop_n (goE1 call _ x y z ram i1 p1 h1 _ _ _ _), loop_n (goE2 call _ x y z ram i1 p1 h2 _ _ _ _), loop_n (goE3 call _ x y z ram i1 p1 h3 _ _ _ _), loop_n (goE4 call _ x y z ram i1 p1 h4 _ _ _ _), loop_n (goE5 call _ x y z ram i1 p1 h5 _ _ _ _), loop_x (lastE call _ x y z ram i1 p1 _ _ _ _)]
  rw [outE_exit call n x y z ram i1 p1 true hl, endE, lvE6]
  try rfl

end
noncomputable def outP : List (List PV) := [[.int .u16 (.ofNat 1), .int .u16 (.negSucc 0)], [.int .u16 (.ofNat 1), .int .u16 (.negSucc 1)], [.int .u16 (.ofNat 1), .int .u16 (.negSucc 2)], [.int .u16 (.ofNat 1), .int .u16 (.negSucc 3)], [.int .u16 (.ofNat 1), .int .u16 (.negSucc 4)], [.int .u16 (.ofNat 1), .int .u16 (.negSucc 5)]]
noncomputable def valP : List (List PV) := [[.int .u16 (.negSucc 0)], [.int .u16 (.negSucc 1)], [.int .u16 (.negSucc 2)], [.int .u16 (.negSucc 3)], [.int .u16 (.negSucc 4)], [.int .u16 (.negSucc 5)]]
noncomputable def extE (args : List AV) (M : Mem) : Option (Rs × Mem) := match args with
  | [.p (.agg [.int .u16 z, .fz o, .int .i64 (.ofNat t), .int .u16 (.ofNat u), .str ram, .int .i64 i1, .int .i64 p1]), .p (.int .i64 (.ofNat k)), .p (.int .u16 (.ofNat i)), .p (.fz v)] =>
    bf (Nat.beq t 6) (bf (Nat.beq u 0) (bf (Nat.beq k 6) (bf (Nat.beq i 0) (bf (Nat.beq M.next 0) (List.casesOn (motive := fun _ => Option (Rs × Mem)) M.objs
      (ob (mtLs (mtLs (mtPV 60)) outP o 0) fun a => ob (mtLs (mtLs (mtPV 60)) valP v 0) fun b => some (.ret (.p (.bool (allE (nz a) (nz b) ram))), ⟨0, []⟩)) (fun _ _ => none)) none) none) none) none) none
  | _ => none
theorem extE_ok {call : Cll} (hcall : CllOk Tryz.prog call) {vs : List AV} {M M' : Mem} {r : Rs} (h : extE vs M = some (r, M')) : RunOk Tryz.prog 10 vs M r M' := by
  unfold extE at h
  split at h <;> try (cases h; done)
  rename_i z o t u ram i1 p1 k i v
  obtain ⟨ht, h⟩ := bf_some.1 h
  obtain ⟨hu, h⟩ := bf_some.1 h
  obtain ⟨hk, h⟩ := bf_some.1 h
  obtain ⟨hi, h⟩ := bf_some.1 h
  obtain ⟨hn, h⟩ := bf_some.1 h
  have ht := Nat.eq_of_beq_eq_true ht
  have hu := Nat.eq_of_beq_eq_true hu
  have hk := Nat.eq_of_beq_eq_true hk
  have hi := Nat.eq_of_beq_eq_true hi
  have hn := Nat.eq_of_beq_eq_true hn
  obtain ⟨nn, objs⟩ := M
  subst ht hu hk hi
  have hn : nn = 0 := hn
  subst hn
  cases objs with
  | cons _ _ => cases h
  | nil =>
    obtain ⟨a, ha, h⟩ := ob_some.1 (show (ob (mtLs (mtLs (mtPV 60)) outP o 0) fun a => ob (mtLs (mtLs (mtPV 60)) valP v 0) fun b => some ((.ret (.p (.bool (allE (nz a) (nz b) ram))) : Rs), (⟨0, []⟩ : Mem))) = some (r, M') from h)
    obtain ⟨b, hb, h⟩ := ob_some.1 h
    cases h
    have h1 := mtLs_ok (s := mapL (inPV (nz a) 60)) (fun x y i a h hg => mtLs_ok (mtPV_ok 60) x y i a h hg) _ _ 0 a ha (nz_fits a)
    have h2 := mtLs_ok (s := mapL (inPV (nz b) 60)) (fun x y i a h hg => mtLs_ok (mtPV_ok 60) x y i a h hg) _ _ 0 b hb (nz_fits b)
    have h1 : outE (nz a) = o := h1
    have h2 : valE (nz b) = v := h2
    subst h1 h2
    obtain ⟨L, fn, hf, hc⟩ := cEnds_eq
    exact evFun_ok (by kernel_rfl) hcall hf hc (endsE call 300 (nz a) (nz b) z ram i1 p1)
end Go.Ab
namespace Go.Ab
set_option maxRecDepth 8000
set_option linter.unusedSimpArgs false
open Go.Proofs
set_option linter.unusedVariables false
noncomputable def EX10 (fs : List Nat) (tab : List EntM) (hs : List Nat) (tah : List EntH) : Env := { EG with ext := fun f => bf (memN f fs) (some fun _ args M => remM tab f args M) (bf (memN f hs) (some fun _ args M => remH tah f args M) (bf (Nat.beq f 10) (some fun _ args M => extE args M) (extG f))) }
theorem envX10 {fs : List Nat} {tab : List EntM} {hs : List Nat} {tah : List EntH} (ht : ∀ e ∈ tab, MOk e) (hh : ∀ e ∈ tah, HOk e) : EnvOk Tryz.prog (EX10 fs tab hs tah) := by
  refine ⟨fnF_ok, fun f e he call hc vs M r M' h => ?_⟩
  rcases bf_cases (show bf (memN f fs) (some fun _ args M => remM tab f args M) (bf (memN f hs) (some fun _ args M => remH tah f args M) (bf (Nat.beq f 10) (some fun _ args M => extE args M) (extG f))) = some e from he) with ⟨_, he⟩ | ⟨_, he⟩
  · cases he
    exact remM_ok ht h
  · rcases bf_cases he with ⟨_, he⟩ | ⟨_, he⟩
    · cases he
      exact remH_ok hh h
    · rcases bf_cases he with ⟨hb, he⟩ | ⟨_, he⟩
      · obtain rfl := Nat.eq_of_beq_eq_true hb
        cases he
        exact extE_ok hc h
      · exact extG_ok f e he call hc vs M r M' h
theorem x10_ok {fs : List Nat} {tab : List EntM} {hs : List Nat} {tah : List EntH} (ht : ∀ e ∈ tab, MOk e) (hh : ∀ e ∈ tah, HOk e) {fuel n me f : Nat} {args : List AV} {M M' : Mem} {r : Rs}
    (h : runE (EX10 fs tab hs tah) fuel (callE (EX10 fs tab hs tah) fuel n) me f args M = some (r, M')) : RunOk Tryz.prog f args M r M' :=
  runE_ok (by kernel_rfl) (envX10 ht hh) (fun me => callE_ok (by kernel_rfl) (envX10 ht hh) n me) h
def G0 : Gm := ⟨fun _ => ⟨0, 0, 0⟩, fun _ => False⟩
theorem st_nil (w : World) : St [] (Lt 0) G0 w where
  lt id o h := by cases h.1
  inj id o id' o' h := by cases h.1
  rel id o h := by cases h.1
  refs id o h := by cases h.1
  apart id o h := by cases h.1
  ltX b h := h.elim
  wf id o h := by cases h
theorem run_nil {f : Nat} {vs : List AV} {v : AV} {k : Nat} (h : RunOk Tryz.prog f vs ⟨0, []⟩ (.ret v) ⟨k, []⟩) (w : World) (xs : List Value) (hx : RL w (Own [] G0) G0 (Lt 0) vs xs) :
    Calls Tryz.prog f ⟨xs⟩ w fun e w' => ∃ x, e = .returned x ∧ Ev (fun _ => False) w w' ∧ ∃ O G n, R w' O G n v x := by
  obtain ⟨_, hC⟩ := h G0 w xs (st_nil w) hx
  refine hC.mono fun e w' => ?_
  rintro ⟨G', hP, _, x, rfl, hr⟩
  refine ⟨x, rfl, hP.ev.mono fun b hb => ?_, _, _, _, hr⟩
  obtain ⟨id, o, h, _⟩ := hb
  cases h.1
/-! ### The words that come out -/
theorem eAnd_mod (x : Nat) : eAnd x 255 = x % 256 := by
  show (BitVec.ofInt 16 (Int.ofNat x) &&& BitVec.ofInt 16 (Int.ofNat 255)).toNat % 65536 = _
  have e1 : BitVec.ofInt 16 (Int.ofNat x) = BitVec.ofNat 16 x := BitVec.ofInt_natCast 16 x
  have e2 : BitVec.ofInt 16 (Int.ofNat 255) = BitVec.ofNat 16 255 := BitVec.ofInt_natCast 16 255
  rw [e1, e2, BitVec.toNat_and, BitVec.toNat_ofNat, BitVec.toNat_ofNat]
  have : (255 : Nat) % 2 ^ 16 = 2 ^ 8 - 1 := by decide
  rw [this, Nat.and_two_pow_sub_one_eq_mod]
  omega
theorem eOr_zero (x : Nat) : eOr x 0 = x % 65536 := by
  show (BitVec.ofInt 16 (Int.ofNat x) ||| BitVec.ofInt 16 (Int.ofNat 0)).toNat % 65536 = _
  have e1 : BitVec.ofInt 16 (Int.ofNat x) = BitVec.ofNat 16 x := BitVec.ofInt_natCast 16 x
  have e2 : BitVec.ofInt 16 (Int.ofNat 0) = BitVec.ofNat 16 0 := BitVec.ofInt_natCast 16 0
  rw [e1, e2, BitVec.toNat_or, BitVec.toNat_ofNat, BitVec.toNat_ofNat]
  simp
theorem e8_def (x : Nat) : e8 x = x % 256 := rfl
theorem e16_def (x : Nat) : e16 x = x % 65536 := rfl
theorem eAdd_def (x y : Nat) : eAdd x y = (x + y) % 65536 := rfl
theorem eMul_def (x y : Nat) : eMul x y = (x * y) % 65536 := rfl
theorem len_setN {α : Type} (v : α) : ∀ (l : List α) (i : Nat), len (setN v l i) = len l
  | [], _ => rfl
  | _ :: _, 0 => rfl
  | a :: l, i + 1 => congrArg Nat.succ (len_setN v l i)
theorem len_zsN : ∀ n, len (zsN n) = n
  | 0 => rfl
  | n + 1 => congrArg Nat.succ (len_zsN n)
theorem len_strW : ∀ l, len (strW l) = 8192
  | [] => len_zsN 8192
  | p :: l => (len_setN p.2 (strW l) p.1).trans (len_strW l)
theorem difW_self {x y : Nat} (h : x = y) : difW x y = false := by
  rw [difW_eq, h]
  simp
end Go.Ab
namespace Go.Ab
set_option maxRecDepth 30000
set_option linter.unusedSimpArgs false
open Go.Proofs Go.RowKit
set_option linter.unusedVariables false
noncomputable def bSan : EntM := ⟨6, 0, [], [], .p (.bool true), 0, []⟩
theorem bSan_ok : MOk bSan := sanity15_ok
def k0 : CCode := CCode.reg [{ act := Ac.p (POp.mv (Opd.const (AV.p (PV.bool false)))), guard := none }] [(11, 0)]
def k1 : CCode := CCode.reg [{ act := Ac.call (Opd.const (AV.fn 6 [] [])) [] false, guard := none }, { act := Ac.p (POp.mv (Opd.res 0)), guard := none }] [(9, 0)]
def k2 : CCode := CCode.reg [{ act := Ac.call (Opd.const (AV.fn 7 [] [])) [Opd.const (AV.p (PV.str [115, 116, 114, 117, 99, 116, 32, 78, 32, 123, 32, 110, 101, 120, 116, 58, 32, 42, 78, 44, 32, 116, 97, 103, 58, 32, 117, 56, 44, 32, 119, 58, 32, 91, 51, 93, 117, 49, 54, 32, 125, 32, 118, 97, 114, 32, 116, 58, 32, 91, 53, 93, 78, 32, 97, 116, 32, 48, 120, 52, 50, 48, 48, 59, 32, 118, 97, 114, 32, 112, 58, 32, 42, 78, 32, 97, 116, 32, 48, 120, 52, 48, 48, 48, 59, 32, 102, 110, 32, 109, 97, 105, 110, 40, 41, 32, 123, 32, 108, 101, 116, 32, 105, 58, 32, 117, 49, 54, 32, 61, 32, 105, 110, 40, 49, 41, 59, 32, 108, 101, 116, 32, 106, 58, 32, 117, 49, 54, 32, 61, 32, 105, 110, 40, 49, 41, 59, 32, 108, 101, 116, 32, 118, 58, 32, 117, 49, 54, 32, 61, 32, 105, 110, 40, 49, 41, 59, 32, 112, 32, 61, 32, 38, 116, 91, 105, 93, 59, 32, 40, 42, 112, 41, 46, 119, 91, 106, 93, 32, 61, 32, 118, 59, 32, 40, 42, 112, 41, 46, 110, 101, 120, 116, 32, 61, 32, 112, 59, 32, 40, 42, 112, 41, 46, 116, 97, 103, 32, 61, 32, 118, 59, 32, 111, 117, 116, 40, 49, 44, 32, 116, 91, 105, 93, 46, 119, 91, 106, 93, 41, 59, 32, 111, 117, 116, 40, 49, 44, 32, 40, 42, 40, 42, 112, 41, 46, 110, 101, 120, 116, 41, 46, 119, 91, 106, 93, 41, 59, 32, 111, 117, 116, 40, 49, 44, 32, 117, 49, 54, 40, 38, 40, 42, 112, 41, 46, 119, 91, 106, 93, 41, 41, 59, 32, 111, 117, 116, 40, 49, 44, 32, 40, 42, 112, 41, 46, 110, 101, 120, 116, 32, 61, 61, 32, 38, 116, 91, 105, 93, 41, 59, 32, 111, 117, 116, 40, 49, 44, 32, 40, 42, 112, 41, 46, 110, 101, 120, 116, 32, 61, 61, 32, 48, 41, 59, 32, 111, 117, 116, 40, 49, 44, 32, 116, 91, 105, 93, 46, 116, 97, 103, 41, 59, 32, 125]))] false, guard := none }, { act := Ac.n (NOp.alloc [AV.nils, AV.nils, AV.nils]), guard := none }, { act := Ac.e (EOp.store 3 (Opd.res 0) (Opd.res 1)) false, guard := none }] [(3, 1)]
def k3 : CCode := CCode.reg [{ act := Ac.p (POp.mv (Opd.old 0)), guard := none }, { act := Ac.p (POp.bin 0 (BinOp.rem) (Opd.res 0) (Opd.const (AV.p (PV.int (IntKind.u8) 5)))), guard := none }, { act := Ac.p (POp.conv (IntKind.u16) (Opd.res 0)), guard := none }, { act := Ac.p (POp.mv (Opd.res 0)), guard := none }] [(4, 0)]
def k4 : CCode := CCode.reg [{ act := Ac.p (POp.mv (Opd.old 1)), guard := none }, { act := Ac.p (POp.bin 0 (BinOp.rem) (Opd.res 0) (Opd.const (AV.p (PV.int (IntKind.u8) 3)))), guard := none }, { act := Ac.p (POp.conv (IntKind.u16) (Opd.res 0)), guard := none }, { act := Ac.p (POp.mv (Opd.res 0)), guard := none }] [(5, 0)]
def k5 : CCode := CCode.reg [{ act := Ac.p (POp.load (some 3) (Opd.old 3)), guard := none }, { act := Ac.p (POp.mv (Opd.old 4)), guard := none }, { act := Ac.p (POp.mv (Opd.old 5)), guard := none }, { act := Ac.p (POp.mv (Opd.old 2)), guard := none }, { act := Ac.n (NOp.buildSlice 0 1 [AV.p (PV.int (IntKind.u16) 0)] [some (Opd.res 2), some (Opd.res 1), some (Opd.res 0)]), guard := none }, { act := Ac.p (POp.build [AV.nils, AV.nils] [(0, 1, Opd.res 0)]), guard := none }, { act := Ac.call (Opd.const (AV.fn 8 [] [])) [Opd.res 5, Opd.res 0, Opd.const (AV.p (PV.int (IntKind.i64) 300))] false, guard := none }, { act := Ac.n (NOp.alloc [AV.p (PV.int (IntKind.u16) 0), AV.nils, AV.p (PV.int (IntKind.i64) 0), AV.p (PV.int (IntKind.u16) 0), AV.p (PV.str []), AV.p (PV.int (IntKind.i64) 0), AV.p (PV.int (IntKind.i64) 0)]), guard := none }, { act := Ac.e (EOp.store 7 (Opd.res 0) (Opd.res 1)) false, guard := none }] [(6, 1)]
def k6 : CCode := CCode.reg [{ act := Ac.p (POp.mv (Opd.old 4)), guard := none }, { act := Ac.p (POp.bin 0 (BinOp.mul) (Opd.const (AV.p (PV.int (IntKind.u16) 9))) (Opd.res 0)), guard := none }, { act := Ac.p (POp.bin 0 (BinOp.add) (Opd.const (AV.p (PV.int (IntKind.u16) 16896))) (Opd.res 0)), guard := none }, { act := Ac.p (POp.bin 0 (BinOp.add) (Opd.res 0) (Opd.const (AV.p (PV.int (IntKind.u16) 3)))), guard := none }, { act := Ac.p (POp.mv (Opd.old 5)), guard := none }, { act := Ac.p (POp.bin 0 (BinOp.mul) (Opd.const (AV.p (PV.int (IntKind.u16) 2))) (Opd.res 0)), guard := none }, { act := Ac.p (POp.bin 0 (BinOp.add) (Opd.res 2) (Opd.res 0)), guard := none }, { act := Ac.p (POp.mv (Opd.res 0)), guard := none }] [(7, 0)]
def k7R : CCode := CCode.reg [{ act := Ac.p (POp.load (some 3) (Opd.old 3)), guard := none }, { act := Ac.call (Opd.const (AV.fn 9 [] [])) [Opd.res 0] false, guard := none }, { act := Ac.p (POp.not (Opd.res 0)), guard := none }, { act := Ac.p (POp.mv (Opd.res 0)), guard := none }, { act := Ac.p (POp.load (some 7) (Opd.old 6)), guard := some (Opd.res 0, false) }, { act := Ac.p (POp.mv (Opd.old 2)), guard := some (Opd.res 1, false) }, { act := Ac.p (POp.mv (Opd.old 2)), guard := some (Opd.res 2, false) }, { act := Ac.p (POp.mv (Opd.old 7)), guard := some (Opd.res 3, false) }, { act := Ac.p (POp.mv (Opd.old 2)), guard := some (Opd.res 4, false) }, { act := Ac.p (POp.bin 0 (BinOp.and) (Opd.res 0) (Opd.const (AV.p (PV.int (IntKind.u16) 255)))), guard := some (Opd.res 5, false) }, { act := Ac.n (NOp.buildSlice 0 1 [AV.p (PV.int (IntKind.u16) 0)] [some (Opd.res 4), some (Opd.res 3), some (Opd.res 2), some (Opd.const (AV.p (PV.int (IntKind.u16) 1))), some (Opd.const (AV.p (PV.int (IntKind.u16) 0))), some (Opd.res 0)]), guard := some (Opd.res 6, false) }, { act := Ac.call (Opd.const (AV.fn 10 [] [])) [Opd.res 6, Opd.const (AV.p (PV.int (IntKind.i64) 6)), Opd.const (AV.p (PV.int (IntKind.u16) 0)), Opd.res 0] false, guard := some (Opd.res 7, false) }, { act := Ac.p (POp.not (Opd.res 0)), guard := some (Opd.res 8, false) }, { act := Ac.p (POp.pick (Opd.res 9) (Opd.const (AV.p (PV.bool true))) (Opd.res 0)), guard := none }] [(8, 0)]
def k7C : CCode := CCode.cond 8 (CCode.seq (CCode.reg [{ act := Ac.p (POp.mv (Opd.const (AV.p (PV.bool false)))), guard := none }] [(11, 0)]) (CCode.ret)) (CCode.skip)
def k7 : CCode := .seq k7R k7C
def k8 : CCode := CCode.reg [{ act := Ac.p (POp.mv (Opd.old 7)), guard := none }, { act := Ac.p (POp.conv (IntKind.i64) (Opd.res 0)), guard := none }, { act := Ac.p (POp.bin 0 (BinOp.sub) (Opd.res 0) (Opd.const (AV.p (PV.int (IntKind.i64) 16384)))), guard := none }, { act := Ac.p (POp.mv (Opd.res 0)), guard := none }] [(10, 0)]
def k9a : List It := [{ act := Ac.p (POp.mv (Opd.old 9)), guard := none }, { act := Ac.p (POp.mv (Opd.res 0)), guard := none }, { act := Ac.p (POp.fieldA 4 (Opd.old 6)), guard := some (Opd.res 0, true) }, { act := Ac.p (POp.load none (Opd.res 0)), guard := some (Opd.res 1, true) }, { act := Ac.p (POp.mv (Opd.old 10)), guard := some (Opd.res 2, true) }, { act := Ac.p (POp.index (Opd.res 1) (Opd.res 0)), guard := some (Opd.res 3, true) }, { act := Ac.p (POp.mv (Opd.old 2)), guard := some (Opd.res 4, true) }, { act := Ac.p (POp.conv (IntKind.u8) (Opd.res 0)), guard := some (Opd.res 5, true) }, { act := Ac.p (POp.bin 0 (BinOp.eql) (Opd.res 2) (Opd.res 0)), guard := some (Opd.res 6, true) }, { act := Ac.p (POp.pick (Opd.res 7) (Opd.res 0) (Opd.const (AV.p (PV.bool false)))), guard := none }, { act := Ac.p (POp.mv (Opd.res 0)), guard := none }]
def k9b : List It := [{ act := Ac.p (POp.fieldA 4 (Opd.old 6)), guard := some (Opd.res 0, true) }, { act := Ac.p (POp.load none (Opd.res 0)), guard := some (Opd.res 1, true) }, { act := Ac.p (POp.mv (Opd.old 10)), guard := some (Opd.res 2, true) }, { act := Ac.p (POp.bin 0 (BinOp.add) (Opd.res 0) (Opd.const (AV.p (PV.int (IntKind.i64) 1)))), guard := some (Opd.res 3, true) }, { act := Ac.p (POp.index (Opd.res 2) (Opd.res 0)), guard := some (Opd.res 4, true) }, { act := Ac.p (POp.mv (Opd.old 2)), guard := some (Opd.res 5, true) }, { act := Ac.p (POp.bin 0 (BinOp.shr) (Opd.res 0) (Opd.const (AV.p (PV.int (IntKind.u64) 8)))), guard := some (Opd.res 6, true) }, { act := Ac.p (POp.conv (IntKind.u8) (Opd.res 0)), guard := some (Opd.res 7, true) }, { act := Ac.p (POp.bin 0 (BinOp.eql) (Opd.res 3) (Opd.res 0)), guard := some (Opd.res 8, true) }, { act := Ac.p (POp.pick (Opd.res 9) (Opd.res 0) (Opd.const (AV.p (PV.bool false)))), guard := none }, { act := Ac.p (POp.mv (Opd.res 0)), guard := none }]
def k9 : CCode := .reg (k9a ++ k9b) [(11, 0)]
def k10 : CCode := CCode.ret
noncomputable def cLaw5 : CFunc := ⟨3, 12, .seq k0 (.seq k1 (.seq k2 (.seq k3 (.seq k4 (.seq k5 (.seq k6 (.seq k7 (.seq k8 (.seq k9 (k10)))))))))), [.slot 11]⟩
theorem cLaw5_eq : cFunc Tryz.prog 0 Tryz.f5 = some cLaw5 := by kernel_rfl
noncomputable def fL (i j v : Nat) (a b c d e f g h k : AV) : Fr := [.p (.int .u8 (.ofNat i)), .p (.int .u8 (.ofNat j)), .p (.int .u16 (.ofNat v)), a, b, c, d, e, f, g, h, k]
noncomputable def pgL : Nat × Ob := (0, .cells [[.p (qV0), .p (qV1), .p (qV11)]])
noncomputable def mL1 : Mem := ⟨1, [pgL]⟩
noncomputable def wd (n : Nat) : AV := .p (.int .u16 (.ofNat n))
noncomputable def tt : AV := .p (.bool true)
noncomputable def ff : AV := .p (.bool false)
noncomputable def runL (xs : Nat → Nat) (L : List (Nat × Nat)) : Nat × Ob := (1, .cells [[wd 0, .p (.fz (outE xs)), .p (.int .i64 (.ofNat 6)), wd 0, .p (.str (strW L)), .p (.int .i64 (.ofNat 3)), .p (.int .i64 (.ofNat 0))]])
noncomputable def xL (v at_ : Nat) : Nat → Nat := nz [eOr (e16 (e8 v)) (eShl (e16 (e8 (eShr v 8))) 8), eOr (e16 (e8 v)) (eShl (e16 (e8 (eShr v 8))) 8), at_, 1, 0, e16 (e8 v)]
noncomputable def yL (v at_ : Nat) : Nat → Nat := nz [v, v, at_, 1, 0, eAnd v 255]
theorem eOr_val (x y : Nat) : eOr x y = ((x % 65536) ||| (y % 65536)) % 65536 := by
  show (BitVec.ofInt 16 (Int.ofNat x) ||| BitVec.ofInt 16 (Int.ofNat y)).toNat % 65536 = _
  have e1 : BitVec.ofInt 16 (Int.ofNat x) = BitVec.ofNat 16 x := BitVec.ofInt_natCast 16 x
  have e2 : BitVec.ofInt 16 (Int.ofNat y) = BitVec.ofNat 16 y := BitVec.ofInt_natCast 16 y
  rw [e1, e2, BitVec.toNat_or, BitVec.toNat_ofNat, BitVec.toNat_ofNat]
theorem word_two {v : Nat} (hv : v < 65536) : eOr (e16 (e8 v)) (eShl (e16 (e8 (eShr v 8))) 8) = v := by
  rw [eOr_val]
  have h1 : e16 (e8 v) = v % 256 := by
    show v % 256 % 65536 = _
    omega
  have h2 : eShl (e16 (e8 (eShr v 8))) 8 = 2 ^ 8 * (v / 256) := by
    show (v / 2 ^ 8 % 256 % 65536) * 2 ^ 8 % 65536 = _
    omega
  rw [h1, h2]
  have h3 : v % 256 % 65536 = v % 256 := by omega
  have h4 : 2 ^ 8 * (v / 256) % 65536 = 2 ^ 8 * (v / 256) := by omega
  rw [h3, h4, Nat.or_comm, ← Nat.two_pow_add_eq_or_of_lt (by omega : v % 256 < 2 ^ 8)]
  omega
theorem allL_true {v at_ : Nat} (hv : v < 65536) (L : List (Nat × Nat)) : allE (xL v at_) (yL v at_) (strW L) = true := by
  have h0 : difW (eOr (e16 (e8 v)) (eShl (e16 (e8 (eShr v 8))) 8)) v = false := difW_self (word_two hv)
  have h2 : difW at_ at_ = false := difW_self rfl
  have h3 : difW 1 1 = false := difW_self rfl
  have h4 : difW 0 0 = false := difW_self rfl
  have h5 : difW (e16 (e8 v)) (eAnd v 255) = false := difW_self (by
    rw [eAnd_mod]
    show v % 256 % 65536 = _
    omega)
  show bf (difW (eOr (e16 (e8 v)) (eShl (e16 (e8 (eShr v 8))) 8)) v) false (bf (difW (eOr (e16 (e8 v)) (eShl (e16 (e8 (eShr v 8))) 8)) v) false (bf (difW at_ at_) false (bf (difW 1 1) false (bf (difW 0 0) false (bf (difW (e16 (e8 v)) (eAnd v 255)) false (beqI (.ofNat (len (strW L))) (.ofNat 8192))))))) = true
  simp only [h0, h2, h3, h4, h5, len_strW]
  rfl
theorem lo_eq (v : Nat) : beqI (.ofNat (e8 (e8 v))) (.ofNat (e8 v)) = true := by
  show Nat.beq (v % 256 % 256) (v % 256) = true
  rw [Nat.mod_mod]
  exact Nat.beq_refl _
theorem its_two {x y : List It} {call : Cll} {fr : Fr} {base : Nat} {s s1 : RS} {K : RS → Out} (h : ∀ K : RS → Out, evIts x call fr base s K = K s1) : evIts (x ++ y) call fr base s K = evIts y call fr base s1 K := by
  rw [evIts_append, h]
theorem reg_two {a b : List It} {wb : List (Nat × Nat)} {call : Cll} {n : Nat} {fr : Fr} {M : Mem} {s1 : RS} (h : ∀ K : RS → Out, evIts a call fr 0 ⟨[], [], [], M⟩ K = K s1) : evCode (.reg (a ++ b) wb) call n fr M = evIts b call fr 0 s1 (finish wb fr) := by
  show evIts (a ++ b) call fr 0 ⟨[], [], [], M⟩ (finish wb fr) = _
  exact its_two h
end Go.Ab
