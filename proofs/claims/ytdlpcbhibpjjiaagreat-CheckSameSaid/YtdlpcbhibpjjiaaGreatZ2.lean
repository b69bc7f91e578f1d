/- CheckSame: its code, and steps through code that calls. CheckSame: pieces 0 to 6. CheckSame: the loop. -/
import Derived.Test.YtdlpcbhibpjjiaaGreatA7
import Derived.Test.YtdlpcbhibpjjiaaGreatZ1
import Derived.KernelRfl
namespace Go.Ab
set_option maxRecDepth 8000
set_option linter.unusedSimpArgs false
set_option linter.unusedVariables false
abbrev tz : List AV := [.p (.int .i64 0), .p (.str []), .p (.int .i64 0), .nils]
abbrev i0 : List It := [⟨.n (.box (.old 0)), none⟩, ⟨.n (.box (.old 1)), none⟩, ⟨.p (.mv (.const (.p (.bool false)))), none⟩]
abbrev g0 : CCode := .reg i0 [(3, 2), (4, 1), (14, 0)]
abbrev i1 : List It := [⟨.call (.const (.fn 11 [] [])) [] false, none⟩, ⟨.p (.mv (.res 0)), none⟩]
abbrev g1 : CCode := .reg i1 [(11, 0)]
abbrev d2i3 : List It := [⟨.fl [0, 0], none⟩, ⟨.e (.store 4 (.res 4) (.res 0)) false, none⟩, ⟨.fl [0, 1, 2, 3, 4, 5, 6, 7, 8, 9, 10, 11], none⟩]
abbrev d2n3 : DT := .node d2i3 [(5, 5)] []
abbrev d2i2 : List It := [⟨.fl [], none⟩, ⟨.call (.const (.fn 24 [] [])) [.res 0] true, none⟩, ⟨.chk (.res 6), none⟩, ⟨.chk (.res 8), none⟩, ⟨.p (.bin 0 .add (.const (.p (.str [84]))) (.res 0)), none⟩, ⟨.p (.build tz [(0, 1, .res 8), (2, 1, .res 6), (1, 1, .res 0)]), none⟩]
abbrev d2n2 : DT := .node d2i2 [] [d2n3]
abbrev d2i1 : List It := [⟨.fl [], none⟩, ⟨.call (.const (.fn 23 [] [])) [.res 1, .const (.p (.int .i64 4))] true, none⟩, ⟨.chk (.res 5), none⟩, ⟨.chk (.res 7), none⟩]
abbrev d2n1 : DT := .node d2i1 [] [d2n2]
abbrev d2i0 : List It := [⟨.p (.indexAr 3 1 (.old 3) (.const (.p (.int .i64 0)))), none⟩, ⟨.p (.load none (.res 0)), none⟩, ⟨.p (.indexAr 3 1 (.old 3) (.const (.p (.int .i64 1)))), none⟩, ⟨.p (.load none (.res 0)), none⟩, ⟨.p (.indexAr 3 1 (.old 3) (.const (.p (.int .i64 2)))), none⟩, ⟨.p (.load none (.res 0)), none⟩, ⟨.nw 0 (.alloc tz), none⟩]
abbrev d2n0 : DT := .node d2i0 [] [d2n1]
abbrev g2 : CCode := .dreg 1 d2n0
abbrev d3i3 : List It := [⟨.fl [0, 0], none⟩, ⟨.e (.store 4 (.res 4) (.res 0)) false, none⟩, ⟨.fl [0, 1, 2, 3, 4, 5, 6, 7, 8, 9, 10, 11], none⟩]
abbrev d3n3 : DT := .node d3i3 [(6, 5)] []
abbrev d3i2 : List It := [⟨.fl [], none⟩, ⟨.call (.const (.fn 24 [] [])) [.res 0] true, none⟩, ⟨.chk (.res 6), none⟩, ⟨.chk (.res 8), none⟩, ⟨.p (.bin 0 .add (.const (.p (.str [84]))) (.res 0)), none⟩, ⟨.p (.build tz [(0, 1, .res 8), (2, 1, .res 6), (1, 1, .res 0)]), none⟩]
abbrev d3n2 : DT := .node d3i2 [] [d3n3]
abbrev d3i1 : List It := [⟨.fl [], none⟩, ⟨.call (.const (.fn 23 [] [])) [.res 1, .const (.p (.int .i64 4))] true, none⟩, ⟨.chk (.res 5), none⟩, ⟨.chk (.res 7), none⟩]
abbrev d3n1 : DT := .node d3i1 [] [d3n2]
abbrev d3i0 : List It := [⟨.p (.indexAr 3 1 (.old 4) (.const (.p (.int .i64 0)))), none⟩, ⟨.p (.load none (.res 0)), none⟩, ⟨.p (.indexAr 3 1 (.old 4) (.const (.p (.int .i64 1)))), none⟩, ⟨.p (.load none (.res 0)), none⟩, ⟨.p (.indexAr 3 1 (.old 4) (.const (.p (.int .i64 2)))), none⟩, ⟨.p (.load none (.res 0)), none⟩, ⟨.nw 0 (.alloc tz), none⟩]
abbrev d3n0 : DT := .node d3i0 [] [d3n1]
abbrev g3 : CCode := .dreg 1 d3n0
abbrev i4 : List It := [⟨.p (.fieldA 0 (.old 5)), none⟩, ⟨.p (.load none (.res 0)), none⟩, ⟨.p (.fieldA 0 (.old 6)), none⟩, ⟨.p (.load none (.res 0)), none⟩, ⟨.p (.bin 0 .eql (.res 2) (.res 0)), none⟩, ⟨.p (.mv (.res 0)), none⟩, ⟨.p (.fieldA 2 (.old 5)), some (.res 0, true)⟩, ⟨.p (.load none (.res 0)), some (.res 1, true)⟩, ⟨.p (.fieldA 2 (.old 6)), some (.res 2, true)⟩, ⟨.p (.load none (.res 0)), some (.res 3, true)⟩, ⟨.p (.bin 0 .eql (.res 2) (.res 0)), some (.res 4, true)⟩, ⟨.p (.pick (.res 5) (.res 0) (.const (.p (.bool false)))), none⟩, ⟨.p (.mv (.res 0)), none⟩, ⟨.p (.fieldA 1 (.old 5)), some (.res 0, true)⟩, ⟨.p (.load none (.res 0)), some (.res 1, true)⟩, ⟨.p (.fieldA 1 (.old 6)), some (.res 2, true)⟩, ⟨.p (.load none (.res 0)), some (.res 3, true)⟩, ⟨.p (.bin 0 .eql (.res 2) (.res 0)), some (.res 4, true)⟩, ⟨.p (.pick (.res 5) (.res 0) (.const (.p (.bool false)))), none⟩, ⟨.p (.mv (.res 0)), none⟩]
abbrev g4 : CCode := .reg i4 [(12, 0)]
abbrev i5 : List It := [⟨.p (.load (some 4) (.old 5)), none⟩, ⟨.n (.alloc tz), none⟩, ⟨.e (.store 4 (.res 0) (.res 1)) false, none⟩]
abbrev g5 : CCode := .reg i5 [(9, 1)]
abbrev i6 : List It := [⟨.p (.load (some 4) (.old 6)), none⟩, ⟨.n (.alloc tz), none⟩, ⟨.e (.store 4 (.res 0) (.res 1)) false, none⟩]
abbrev g6 : CCode := .reg i6 [(10, 1)]
abbrev i7 : List It := [⟨.p (.mv (.const (.p (.int .i64 0)))), none⟩]
abbrev g7 : CCode := .reg i7 [(7, 0)]
abbrev lb : CCode := .seq (.seq (.reg [⟨.p (.mv (.old 7)), none⟩, ⟨.p (.mv (.old 2)), none⟩, ⟨.call (.const (.fn 23 [] [])) [.res 0, .const (.p (.int .i64 5))] false, none⟩, ⟨.p (.bin 0 .lss (.res 2) (.res 0)), none⟩] [(8, 0)]) (.cond 8 (.skip) (.exit 0))) (.seq (.block 1 (.seq (.reg [⟨.p (.mv (.old 7)), none⟩, ⟨.p (.load (some 4) (.old 9)), none⟩, ⟨.n (.buildSlice 0 4 tz [some (.res 0)]), none⟩, ⟨.p (.build tz [(0, 1, .const (.p (.int .i64 6))), (2, 1, .res 2), (3, 1, .res 0)]), none⟩, ⟨.e (.store 4 (.old 9) (.res 0)) false, none⟩] []) (.reg [⟨.p (.mv (.old 7)), none⟩, ⟨.p (.load (some 4) (.old 10)), none⟩, ⟨.n (.buildSlice 0 4 tz [some (.res 0)]), none⟩, ⟨.p (.build tz [(0, 1, .const (.p (.int .i64 6))), (2, 1, .res 2), (3, 1, .res 0)]), none⟩, ⟨.e (.store 4 (.old 10) (.res 0)) false, none⟩] []))) (.reg [⟨.p (.mv (.old 7)), none⟩, ⟨.p (.bin 0 .add (.res 0) (.const (.p (.int .i64 1)))), none⟩, ⟨.p (.mv (.res 0)), none⟩] [(7, 0)]))
abbrev g8 : CCode := .block 0 (.loop lb)
abbrev ic : List It := [⟨.p (.mv (.old 7)), none⟩, ⟨.p (.mv (.old 2)), none⟩, ⟨.call (.const (.fn 23 [] [])) [.res 0, .const (.p (.int .i64 5))] false, none⟩, ⟨.p (.bin 0 .lss (.res 2) (.res 0)), none⟩]
abbrev gk : CCode := .reg ic [(8, 0)]
abbrev d9i3 : List It := [⟨.fl [2, 0, 1, 0, 0, 1, 0, 0, 0, 1, 0, 1, 0, 0, 1, 0, 2], none⟩, ⟨.e (.store 4 (.res 3) (.res 0)) false, none⟩, ⟨.fl [0, 1, 2, 3, 4, 5, 6, 7, 8, 9, 10, 11, 12, 13, 14, 15], none⟩]
abbrev d9n3 : DT := .node d9i3 [(13, 4)] []
abbrev d9i2 : List It := [⟨.fl [0, 1, 0], none⟩, ⟨.e (.append 4 (.res 0) (.res 2)) true, none⟩, ⟨.chk (.res 9), none⟩, ⟨.chk (.res 11), none⟩, ⟨.chk (.res 13), none⟩, ⟨.p (.build tz [(0, 1, .res 12), (2, 1, .res 10), (1, 1, .res 8), (3, 1, .res 0)]), none⟩]
abbrev d9n2 : DT := .node d9i2 [] [d9n3]
abbrev d9i1 : List It := [⟨.fl [0], none⟩, ⟨.e (.append 4 (.res 5) (.res 3)) true, none⟩, ⟨.chk (.old 6), none⟩, ⟨.chk (.res 8), none⟩, ⟨.chk (.res 10), none⟩, ⟨.chk (.res 12), none⟩]
abbrev d9n1 : DT := .node d9i1 [] [d9n2]
abbrev d9i0 : List It := [⟨.p (.fieldA 0 (.old 9)), none⟩, ⟨.p (.load none (.res 0)), none⟩, ⟨.p (.fieldA 2 (.old 9)), none⟩, ⟨.p (.load none (.res 0)), none⟩, ⟨.p (.fieldA 1 (.old 9)), none⟩, ⟨.p (.load none (.res 0)), none⟩, ⟨.nw 0 (.buildSlice 0 4 tz []), none⟩, ⟨.p (.fieldA 3 (.old 9)), none⟩, ⟨.p (.load none (.res 0)), none⟩, ⟨.p (.load (some 4) (.old 6)), none⟩, ⟨.nw 1 (.buildSlice 0 4 tz [some (.res 0)]), none⟩, ⟨.nw 2 (.alloc tz), none⟩]
abbrev d9n0 : DT := .node d9i0 [] [d9n1]
abbrev g9 : CCode := .dreg 3 d9n0
abbrev i10 : List It := [⟨.p (.mv (.old 11)), none⟩, ⟨.p (.mv (.res 0)), none⟩, ⟨.p (.load (some 4) (.old 9)), some (.res 0, true)⟩, ⟨.p (.load (some 4) (.old 10)), some (.res 1, true)⟩, ⟨.call (.const (.fn 25 [] [])) [.res 1, .res 0] false, some (.res 2, true)⟩, ⟨.p (.mv (.old 12)), some (.res 3, true)⟩, ⟨.p (.bin 1 .eql (.res 1) (.res 0)), some (.res 4, true)⟩, ⟨.p (.pick (.res 5) (.res 0) (.const (.p (.bool false)))), none⟩, ⟨.p (.mv (.res 0)), none⟩, ⟨.p (.load (some 4) (.old 9)), some (.res 0, true)⟩, ⟨.p (.load (some 4) (.old 9)), some (.res 1, true)⟩, ⟨.call (.const (.fn 25 [] [])) [.res 1, .res 0] false, some (.res 2, true)⟩, ⟨.p (.pick (.res 3) (.res 0) (.const (.p (.bool false)))), none⟩, ⟨.p (.mv (.res 0)), none⟩, ⟨.p (.load (some 4) (.old 9)), some (.res 0, true)⟩, ⟨.p (.load (some 4) (.old 13)), some (.res 1, true)⟩, ⟨.call (.const (.fn 25 [] [])) [.res 1, .res 0] false, some (.res 2, true)⟩, ⟨.p (.not (.res 0)), some (.res 3, true)⟩, ⟨.p (.pick (.res 4) (.res 0) (.const (.p (.bool false)))), none⟩, ⟨.p (.mv (.res 0)), none⟩, ⟨.p (.load (some 4) (.old 13)), some (.res 0, true)⟩, ⟨.p (.load (some 4) (.old 9)), some (.res 1, true)⟩, ⟨.call (.const (.fn 25 [] [])) [.res 1, .res 0] false, some (.res 2, true)⟩, ⟨.p (.not (.res 0)), some (.res 3, true)⟩, ⟨.p (.pick (.res 4) (.res 0) (.const (.p (.bool false)))), none⟩, ⟨.p (.mv (.res 0)), none⟩]
abbrev g10 : CCode := .reg i10 [(14, 0)]
abbrev g11 : CCode := .ret
noncomputable def l10 : List CCode := [g0, g1, g2, g3, g4, g5, g6, g7, g8, g9, g10, g11]
theorem guard_none (fr : Fr) (env : List AV) : guardOk none fr env = some true := rfl
theorem act_call {call : Cll} {fr : Fr} {base : Nat} {env : List AV} {pend : Objs} {tch : List Nat} {M : Mem} {K : RS → Out} {f : Nat} {args : List Opd} {t : Bool} {g : Option (Opd × Bool)} {l : List It} (xs : List AV) (v : AV) (M' : Mem) (tch' : List Nat)
    (hg : guardOk g fr env = some true) (ha : opds args fr env = some xs) (ht : bf t (reach M.objs xs) (some []) = some tch') (hc : call f xs M = some (.ret v, M')) :
    evIts (⟨.call (.const (.fn f [] [])) args t, g⟩ :: l) call fr base ⟨env, pend, tch, M⟩ K = evIts l call fr base ⟨v :: env, pend, tch', M'⟩ K := by
  rw [evIts_cons]
  show (ob (guardOk g fr env) fun g => _) = _
  rw [hg]
  show (ob (opds args fr env) fun args => (fun xs => ob (bf t (reach M.objs xs) (some [])) fun tch => ob (call f xs M) fun r =>
      Rs.casesOn (motive := fun _ => Mem → Out) r.1 (fun v M' => evIts l call fr base ⟨v :: env, pend, tch, M'⟩ K) (fun v M' => some (.pan v, fr, M')) r.2) (app [] (app args []))) = _
  rw [ha]
  show (ob (bf t (reach M.objs (app [] (app xs []))) (some [])) fun tch => ob (call f (app [] (app xs [])) M) fun r => _) = _
  have : app [] (app xs []) = xs := by rw [app_eq, app_eq, List.append_nil]; rfl
  rw [this, ht]
  show (ob (call f xs M) fun r => _) = _
  rw [hc]
theorem its_pure {x y : List It} {call : Cll} {fr : Fr} {base : Nat} {s s1 : RS} {K : RS → Out} (h : ∀ K : RS → Out, evIts x call fr base s K = K s1) : evIts (x ++ y) call fr base s K = evIts y call fr base s1 K := by
  rw [evIts_append, h]
theorem its_all {x : List It} {call : Cll} {fr : Fr} {base : Nat} {s s1 : RS} {K : RS → Out} (h : ∀ K : RS → Out, evIts x call fr base s K = K s1) : evIts x call fr base s K = K s1 := h K
theorem seg_step {c : CCode} {l : List CCode} {call : Cll} {n : Nat} {fr fr' : Fr} {M M' : Mem} (h : evCode c call n fr M = some (.normal, fr', M')) : evSegs (c :: l) call n fr M = evSegs l call n fr' M' := by
  show (ob (evCode c call n fr M) fun r => exCases r.1 (evSegs l call n r.2.1 r.2.2) (fun _ => some r) (some r)) = _
  rw [h]
  rfl
theorem dreg_eq (r : Nat) (i : List It) (w : List (Nat × Nat)) (k : List DT) (call : Cll) (n : Nat) (fr : Fr) (M : Mem) : evCode (.dreg r (.node i w k)) call n fr M = evDT (.node i w k) call fr M.next ⟨[], [], [], ⟨M.next + r, M.objs⟩⟩ := rfl
theorem evDT_one (its : List It) (wb : List (Nat × Nat)) (k : DT) (call : Cll) (fr : Fr) (base : Nat) (s : RS) : evDT (.node its wb [k]) call fr base s = evIts its call fr base s (evDT k call fr base) := evDT_node its wb k [] call fr base s
theorem block_loop {b : CCode} {i : Nat} {call : Cll} {n : Nat} {fr fr' : Fr} {M M' : Mem} (h : loopN n (evCode b call n) fr M = some (.exit i, fr', M')) : evCode (.block i (.loop b)) call n fr M = some (.normal, fr', M') := by
  show (ob (loopN n (evCode b call n) fr M) fun r => exCases r.1 (some r) (fun j => bf (Nat.beq j i) (some (.normal, r.2)) (some r)) (some r)) = _
  rw [h]
  show bf (Nat.beq i i) _ _ = _
  rw [Nat.beq_refl]
theorem loop_go {body : Rn} {n : Nat} {fr fr' : Fr} {M M' : Mem} (h : body fr M = some (.normal, fr', M')) : loopN (n + 1) body fr M = loopN n body fr' M' := by
  show (ob (body fr M) fun r => exCases r.1 (loopN n body r.2.1 r.2.2) (fun _ => some r) (some r)) = _
  rw [h]
  rfl
theorem loop_exit {body : Rn} {n i : Nat} {fr fr' : Fr} {M M' : Mem} (h : body fr M = some (.exit i, fr', M')) : loopN (n + 1) body fr M = some (.exit i, fr', M') := by
  show (ob (body fr M) fun r => exCases r.1 (loopN n body r.2.1 r.2.2) (fun _ => some r) (some r)) = _
  rw [h]
  rfl
end Go.Ab
namespace Go.Ab
set_option maxRecDepth 8000
set_option linter.unusedSimpArgs false
set_option linter.unusedVariables false
noncomputable def frS (a0 a1 a2 b0 b1 b2 d : Int) (s5 s6 s7 s8 s9 s10 s11 s12 s13 s14 : AV) : Fr := [.p (.agg [.int .i64 a0, .int .i64 a1, .int .i64 a2]), .p (.agg [.int .i64 b0, .int .i64 b1, .int .i64 b2]), .p (.int .i64 d), .ptr 0 0 0, .ptr 1 0 0, s5, s6, s7, s8, s9, s10, s11, s12, s13, s14]
noncomputable def obA (a0 a1 a2 : Int) : Ob := .pr [[.int .i64 a0, .int .i64 a1, .int .i64 a2]]
noncomputable def ty0 (a0 a1 : Int) (s : Nat) : List AV := [.p (.int .i64 a0), .p (.str [84, s]), .p (.int .i64 a1), .nils]
section
variable (call : Cll) (a0 a1 a2 b0 b1 b2 d k1 k2 : Int) (c1 c2 : Nat)
theorem q0 : evCode g0 call 300 [.p (.agg [.int .i64 a0, .int .i64 a1, .int .i64 a2]), .p (.agg [.int .i64 b0, .int .i64 b1, .int .i64 b2]), .p (.int .i64 d), undefA, undefA, undefA, undefA, undefA, undefA, undefA, undefA, undefA, undefA, undefA, undefA] ⟨0, []⟩ = some (.normal, frS a0 a1 a2 b0 b1 b2 d undefA undefA undefA undefA undefA undefA undefA undefA undefA (.p (.bool false)), ⟨2, [(1, obA b0 b1 b2), (0, obA a0 a1 a2)]⟩) := by kernel_rfl
theorem q1 (M : Mem) (h : ∀ M, call 11 [] M = some (.ret (.p (.bool true)), M)) : evCode g1 call 300 (frS a0 a1 a2 b0 b1 b2 d undefA undefA undefA undefA undefA undefA undefA undefA undefA (.p (.bool false))) M = some (.normal, frS a0 a1 a2 b0 b1 b2 d undefA undefA undefA undefA undefA undefA (.p (.bool true)) undefA undefA (.p (.bool false)), M) := by
  show evIts i1 call _ 0 ⟨[], [], [], M⟩ _ = _
  refine (act_call [] (.p (.bool true)) M [] (by kernel_rfl) (by kernel_rfl) (by kernel_rfl) (h M)).trans ?_
  kernel_rfl
theorem q2 (h1 : ∀ M, call 23 [.p (.int .i64 a2), .p (.int .i64 4)] M = some (.ret (.p (.int .i64 k1)), M)) (h2 : ∀ M, call 24 [.p (.int .i64 k1)] M = some (.ret (.p (.str [c1])), M)) :
    evCode g2 call 300 (frS a0 a1 a2 b0 b1 b2 d undefA undefA undefA undefA undefA undefA (.p (.bool true)) undefA undefA (.p (.bool false))) ⟨2, [(1, obA b0 b1 b2), (0, obA a0 a1 a2)]⟩ =
      some (.normal, frS a0 a1 a2 b0 b1 b2 d (.ptr 2 0 0) undefA undefA undefA undefA undefA (.p (.bool true)) undefA undefA (.p (.bool false)), ⟨3, [(2, .cells [ty0 a0 a1 c1]), (1, obA b0 b1 b2), (0, obA a0 a1 a2)]⟩) := by
  rw [dreg_eq, evDT_one]
  refine Eq.trans (its_all (s1 := ⟨[.ptr 2 0 0, .p (.int .i64 a2), .ptr 0 0 2, .p (.int .i64 a1), .ptr 0 0 1, .p (.int .i64 a0), .ptr 0 0 0], [(2, .cells [tz])], [], ⟨3, [(1, obA b0 b1 b2), (0, obA a0 a1 a2)]⟩⟩) fun K => ?_) ?_
  · kernel_rfl
  rw [evDT_one]
  refine Eq.trans (its_pure (x := [⟨.fl [], none⟩]) (s1 := ⟨[.ptr 2 0 0, .p (.int .i64 a2), .ptr 0 0 2, .p (.int .i64 a1), .ptr 0 0 1, .p (.int .i64 a0), .ptr 0 0 0], [(2, .cells [tz])], [], ⟨3, [(1, obA b0 b1 b2), (0, obA a0 a1 a2)]⟩⟩) fun K => ?_) ?_
  · kernel_rfl
  refine (act_call [.p (.int .i64 a2), .p (.int .i64 4)] (.p (.int .i64 k1)) _ [] (by kernel_rfl) (by kernel_rfl) (by kernel_rfl) (h1 _)).trans ?_
  refine Eq.trans (its_all (s1 := ⟨[.p (.int .i64 k1), .ptr 2 0 0, .p (.int .i64 a2), .ptr 0 0 2, .p (.int .i64 a1), .ptr 0 0 1, .p (.int .i64 a0), .ptr 0 0 0], [(2, .cells [tz])], [], ⟨3, [(1, obA b0 b1 b2), (0, obA a0 a1 a2)]⟩⟩) fun K => ?_) ?_
  · kernel_rfl
  rw [evDT_one]
  refine Eq.trans (its_pure (x := [⟨.fl [], none⟩]) (s1 := ⟨[.p (.int .i64 k1), .ptr 2 0 0, .p (.int .i64 a2), .ptr 0 0 2, .p (.int .i64 a1), .ptr 0 0 1, .p (.int .i64 a0), .ptr 0 0 0], [(2, .cells [tz])], [], ⟨3, [(1, obA b0 b1 b2), (0, obA a0 a1 a2)]⟩⟩) fun K => ?_) ?_
  · kernel_rfl
  refine (act_call [.p (.int .i64 k1)] (.p (.str [c1])) _ [] (by kernel_rfl) (by kernel_rfl) (by kernel_rfl) (h2 _)).trans ?_
  kernel_rfl
theorem q3 (h1 : ∀ M, call 23 [.p (.int .i64 b2), .p (.int .i64 4)] M = some (.ret (.p (.int .i64 k2)), M)) (h2 : ∀ M, call 24 [.p (.int .i64 k2)] M = some (.ret (.p (.str [c2])), M)) :
    evCode g3 call 300 (frS a0 a1 a2 b0 b1 b2 d (.ptr 2 0 0) undefA undefA undefA undefA undefA (.p (.bool true)) undefA undefA (.p (.bool false))) ⟨3, [(2, .cells [ty0 a0 a1 c1]), (1, obA b0 b1 b2), (0, obA a0 a1 a2)]⟩ =
      some (.normal, frS a0 a1 a2 b0 b1 b2 d (.ptr 2 0 0) (.ptr 3 0 0) undefA undefA undefA undefA (.p (.bool true)) undefA undefA (.p (.bool false)), ⟨4, [(3, .cells [ty0 b0 b1 c2]), (2, .cells [ty0 a0 a1 c1]), (1, obA b0 b1 b2), (0, obA a0 a1 a2)]⟩) := by
  rw [dreg_eq, evDT_one]
  refine Eq.trans (its_all (s1 := ⟨[.ptr 3 0 0, .p (.int .i64 b2), .ptr 1 0 2, .p (.int .i64 b1), .ptr 1 0 1, .p (.int .i64 b0), .ptr 1 0 0], [(3, .cells [tz])], [], ⟨4, [(2, .cells [ty0 a0 a1 c1]), (1, obA b0 b1 b2), (0, obA a0 a1 a2)]⟩⟩) fun K => ?_) ?_
  · kernel_rfl
  rw [evDT_one]
  refine Eq.trans (its_pure (x := [⟨.fl [], none⟩]) (s1 := ⟨[.ptr 3 0 0, .p (.int .i64 b2), .ptr 1 0 2, .p (.int .i64 b1), .ptr 1 0 1, .p (.int .i64 b0), .ptr 1 0 0], [(3, .cells [tz])], [], ⟨4, [(2, .cells [ty0 a0 a1 c1]), (1, obA b0 b1 b2), (0, obA a0 a1 a2)]⟩⟩) fun K => ?_) ?_
  · kernel_rfl
  refine (act_call [.p (.int .i64 b2), .p (.int .i64 4)] (.p (.int .i64 k2)) _ [] (by kernel_rfl) (by kernel_rfl) (by kernel_rfl) (h1 _)).trans ?_
  refine Eq.trans (its_all (s1 := ⟨[.p (.int .i64 k2), .ptr 3 0 0, .p (.int .i64 b2), .ptr 1 0 2, .p (.int .i64 b1), .ptr 1 0 1, .p (.int .i64 b0), .ptr 1 0 0], [(3, .cells [tz])], [], ⟨4, [(2, .cells [ty0 a0 a1 c1]), (1, obA b0 b1 b2), (0, obA a0 a1 a2)]⟩⟩) fun K => ?_) ?_
  · kernel_rfl
  rw [evDT_one]
  refine Eq.trans (its_pure (x := [⟨.fl [], none⟩]) (s1 := ⟨[.p (.int .i64 k2), .ptr 3 0 0, .p (.int .i64 b2), .ptr 1 0 2, .p (.int .i64 b1), .ptr 1 0 1, .p (.int .i64 b0), .ptr 1 0 0], [(3, .cells [tz])], [], ⟨4, [(2, .cells [ty0 a0 a1 c1]), (1, obA b0 b1 b2), (0, obA a0 a1 a2)]⟩⟩) fun K => ?_) ?_
  · kernel_rfl
  refine (act_call [.p (.int .i64 k2)] (.p (.str [c2])) _ [] (by kernel_rfl) (by kernel_rfl) (by kernel_rfl) (h2 _)).trans ?_
  kernel_rfl
noncomputable def eqv (a0 a1 b0 b1 : Int) (c1 c2 : Nat) : Bool := bf (beqI a0 b0) (bf (beqI a1 b1) (bf (Nat.beq c1 c2) true false) false) false
theorem q4 : evCode g4 call 300 (frS a0 a1 a2 b0 b1 b2 d (.ptr 2 0 0) (.ptr 3 0 0) undefA undefA undefA undefA (.p (.bool true)) undefA undefA (.p (.bool false))) ⟨4, [(3, .cells [ty0 b0 b1 c2]), (2, .cells [ty0 a0 a1 c1]), (1, obA b0 b1 b2), (0, obA a0 a1 a2)]⟩ = some (.normal, frS a0 a1 a2 b0 b1 b2 d (.ptr 2 0 0) (.ptr 3 0 0) undefA undefA undefA undefA (.p (.bool true)) (.p (.bool (eqv a0 a1 b0 b1 c1 c2))) undefA (.p (.bool false)), ⟨4, [(3, .cells [ty0 b0 b1 c2]), (2, .cells [ty0 a0 a1 c1]), (1, obA b0 b1 b2), (0, obA a0 a1 a2)]⟩) := by
  show evIts i4 call (frS a0 a1 a2 b0 b1 b2 d (.ptr 2 0 0) (.ptr 3 0 0) undefA undefA undefA undefA (.p (.bool true)) undefA undefA (.p (.bool false))) 0 ⟨[], [], [], ⟨4, [(3, .cells [ty0 b0 b1 c2]), (2, .cells [ty0 a0 a1 c1]), (1, obA b0 b1 b2), (0, obA a0 a1 a2)]⟩⟩ (finish [(12, 0)] (frS a0 a1 a2 b0 b1 b2 d (.ptr 2 0 0) (.ptr 3 0 0) undefA undefA undefA undefA (.p (.bool true)) undefA undefA (.p (.bool false)))) = _
  unfold eqv
  refine Eq.trans (its_pure (x := takeN i4 4) (y := dropN i4 4) (s1 := ⟨[.p (.int .i64 b0), .ptr 3 0 0, .p (.int .i64 a0), .ptr 2 0 0], [], [], ⟨4, [(3, .cells [ty0 b0 b1 c2]), (2, .cells [ty0 a0 a1 c1]), (1, obA b0 b1 b2), (0, obA a0 a1 a2)]⟩⟩) fun K => ?_) ?_
  · kernel_rfl
  refine Eq.trans (its_pure (x := takeN (dropN i4 4) 1) (y := dropN i4 5) (s1 := ⟨[.p (.bool (beqI a0 b0)), .p (.int .i64 b0), .ptr 3 0 0, .p (.int .i64 a0), .ptr 2 0 0], [], [], ⟨4, [(3, .cells [ty0 b0 b1 c2]), (2, .cells [ty0 a0 a1 c1]), (1, obA b0 b1 b2), (0, obA a0 a1 a2)]⟩⟩) fun K => ?_) ?_
  · kernel_rfl
  generalize beqI a0 b0 = x1
  cases x1
  · kernel_rfl
  refine Eq.trans (its_pure (x := takeN (dropN i4 5) 5) (y := dropN i4 10) (s1 := ⟨[.p (.int .i64 b1), .ptr 3 0 2, .p (.int .i64 a1), .ptr 2 0 2, .p (.bool true), .p (.bool true), .p (.int .i64 b0), .ptr 3 0 0, .p (.int .i64 a0), .ptr 2 0 0], [], [], ⟨4, [(3, .cells [ty0 b0 b1 c2]), (2, .cells [ty0 a0 a1 c1]), (1, obA b0 b1 b2), (0, obA a0 a1 a2)]⟩⟩) fun K => ?_) ?_
  · kernel_rfl
  refine Eq.trans (its_pure (x := takeN (dropN i4 10) 1) (y := dropN i4 11) (s1 := ⟨[.p (.bool (beqI a1 b1)), .p (.int .i64 b1), .ptr 3 0 2, .p (.int .i64 a1), .ptr 2 0 2, .p (.bool true), .p (.bool true), .p (.int .i64 b0), .ptr 3 0 0, .p (.int .i64 a0), .ptr 2 0 0], [], [], ⟨4, [(3, .cells [ty0 b0 b1 c2]), (2, .cells [ty0 a0 a1 c1]), (1, obA b0 b1 b2), (0, obA a0 a1 a2)]⟩⟩) fun K => ?_) ?_
  · kernel_rfl
  generalize beqI a1 b1 = x2
  cases x2
  · kernel_rfl
  refine Eq.trans (its_pure (x := takeN (dropN i4 11) 6) (y := dropN i4 17) (s1 := ⟨[.p (.str [84, c2]), .ptr 3 0 1, .p (.str [84, c1]), .ptr 2 0 1, .p (.bool true), .p (.bool true), .p (.bool true), .p (.int .i64 b1), .ptr 3 0 2, .p (.int .i64 a1), .ptr 2 0 2, .p (.bool true), .p (.bool true), .p (.int .i64 b0), .ptr 3 0 0, .p (.int .i64 a0), .ptr 2 0 0], [], [], ⟨4, [(3, .cells [ty0 b0 b1 c2]), (2, .cells [ty0 a0 a1 c1]), (1, obA b0 b1 b2), (0, obA a0 a1 a2)]⟩⟩) fun K => ?_) ?_
  · kernel_rfl
  refine Eq.trans (its_pure (x := takeN (dropN i4 17) 1) (y := dropN i4 18) (s1 := ⟨[.p (.bool (bf (Nat.beq c1 c2) true false)), .p (.str [84, c2]), .ptr 3 0 1, .p (.str [84, c1]), .ptr 2 0 1, .p (.bool true), .p (.bool true), .p (.bool true), .p (.int .i64 b1), .ptr 3 0 2, .p (.int .i64 a1), .ptr 2 0 2, .p (.bool true), .p (.bool true), .p (.int .i64 b0), .ptr 3 0 0, .p (.int .i64 a0), .ptr 2 0 0], [], [], ⟨4, [(3, .cells [ty0 b0 b1 c2]), (2, .cells [ty0 a0 a1 c1]), (1, obA b0 b1 b2), (0, obA a0 a1 a2)]⟩⟩) fun K => ?_) ?_
  · kernel_rfl
  generalize Nat.beq c1 c2 = x3
  cases x3
  · kernel_rfl
  · kernel_rfl
variable (e : Bool)
theorem q5 : evCode g5 call 300 (frS a0 a1 a2 b0 b1 b2 d (.ptr 2 0 0) (.ptr 3 0 0) undefA undefA undefA undefA (.p (.bool true)) (.p (.bool e)) undefA (.p (.bool false))) ⟨4, [(3, .cells [ty0 b0 b1 c2]), (2, .cells [ty0 a0 a1 c1]), (1, obA b0 b1 b2), (0, obA a0 a1 a2)]⟩ = some (.normal, frS a0 a1 a2 b0 b1 b2 d (.ptr 2 0 0) (.ptr 3 0 0) undefA undefA (.ptr 4 0 0) undefA (.p (.bool true)) (.p (.bool e)) undefA (.p (.bool false)), ⟨5, [(4, .cells [ty0 a0 a1 c1]), (3, .cells [ty0 b0 b1 c2]), (2, .cells [ty0 a0 a1 c1]), (1, obA b0 b1 b2), (0, obA a0 a1 a2)]⟩) := by kernel_rfl
theorem q6 : evCode g6 call 300 (frS a0 a1 a2 b0 b1 b2 d (.ptr 2 0 0) (.ptr 3 0 0) undefA undefA (.ptr 4 0 0) undefA (.p (.bool true)) (.p (.bool e)) undefA (.p (.bool false))) ⟨5, [(4, .cells [ty0 a0 a1 c1]), (3, .cells [ty0 b0 b1 c2]), (2, .cells [ty0 a0 a1 c1]), (1, obA b0 b1 b2), (0, obA a0 a1 a2)]⟩ = some (.normal, frS a0 a1 a2 b0 b1 b2 d (.ptr 2 0 0) (.ptr 3 0 0) undefA undefA (.ptr 4 0 0) (.ptr 5 0 0) (.p (.bool true)) (.p (.bool e)) undefA (.p (.bool false)), ⟨6, [(5, .cells [ty0 b0 b1 c2]), (4, .cells [ty0 a0 a1 c1]), (3, .cells [ty0 b0 b1 c2]), (2, .cells [ty0 a0 a1 c1]), (1, obA b0 b1 b2), (0, obA a0 a1 a2)]⟩) := by kernel_rfl
theorem q7 : evCode g7 call 300 (frS a0 a1 a2 b0 b1 b2 d (.ptr 2 0 0) (.ptr 3 0 0) undefA undefA (.ptr 4 0 0) (.ptr 5 0 0) (.p (.bool true)) (.p (.bool e)) undefA (.p (.bool false))) ⟨6, [(5, .cells [ty0 b0 b1 c2]), (4, .cells [ty0 a0 a1 c1]), (3, .cells [ty0 b0 b1 c2]), (2, .cells [ty0 a0 a1 c1]), (1, obA b0 b1 b2), (0, obA a0 a1 a2)]⟩ = some (.normal, frS a0 a1 a2 b0 b1 b2 d (.ptr 2 0 0) (.ptr 3 0 0) (.p (.int .i64 0)) undefA (.ptr 4 0 0) (.ptr 5 0 0) (.p (.bool true)) (.p (.bool e)) undefA (.p (.bool false)), ⟨6, [(5, .cells [ty0 b0 b1 c2]), (4, .cells [ty0 a0 a1 c1]), (3, .cells [ty0 b0 b1 c2]), (2, .cells [ty0 a0 a1 c1]), (1, obA b0 b1 b2), (0, obA a0 a1 a2)]⟩) := by kernel_rfl
end
end Go.Ab
namespace Go.Ab
set_option maxRecDepth 8000
set_option linter.unusedSimpArgs false
set_option linter.unusedVariables false
/-- A type behind k pointers. -/
noncomputable def pk (a0 a1 : Int) (c : Nat) (k : Nat) : List PV := Nat.rec (motive := fun _ => List PV) [.int .i64 a0, .str [84, c], .int .i64 a1, .fz []] (fun k ih => [.int .i64 6, .str [], .int .i64 (.ofNat k), .fz [ih]]) k
noncomputable def vk (a0 a1 : Int) (c : Nat) (k : Nat) : List AV := Nat.casesOn (motive := fun _ => List AV) k (ty0 a0 a1 c) (fun k => [.p (.int .i64 6), .p (.str []), .p (.int .i64 (.ofNat k)), .lit [pk a0 a1 c k]])
noncomputable def obk (a0 a1 a2 b0 b1 b2 : Int) (c1 c2 k : Nat) : Objs := [(5, .cells [vk b0 b1 c2 k]), (4, .cells [vk a0 a1 c1 k]), (3, .cells [ty0 b0 b1 c2]), (2, .cells [ty0 a0 a1 c1]), (1, obA b0 b1 b2), (0, obA a0 a1 a2)]
section
variable (call : Cll) (a0 a1 a2 b0 b1 b2 d : Int) (c1 c2 : Nat) (e : Bool) (s8 : AV)
theorem qc (k n : Nat) (M : Mem) (h5 : ∀ M, call 23 [.p (.int .i64 d), .p (.int .i64 5)] M = some (.ret (.p (.int .i64 (.ofNat n))), M)) : evCode gk call 300 (frS a0 a1 a2 b0 b1 b2 d (.ptr 2 0 0) (.ptr 3 0 0) (.p (.int .i64 (.ofNat k))) s8 (.ptr 4 0 0) (.ptr 5 0 0) (.p (.bool true)) (.p (.bool e)) undefA (.p (.bool false))) M = some (.normal, frS a0 a1 a2 b0 b1 b2 d (.ptr 2 0 0) (.ptr 3 0 0) (.p (.int .i64 (.ofNat k))) (.p (.bool (nt (Nat.ble n k)))) (.ptr 4 0 0) (.ptr 5 0 0) (.p (.bool true)) (.p (.bool e)) undefA (.p (.bool false)), M) := by
  show evIts ic call (frS a0 a1 a2 b0 b1 b2 d (.ptr 2 0 0) (.ptr 3 0 0) (.p (.int .i64 (.ofNat k))) s8 (.ptr 4 0 0) (.ptr 5 0 0) (.p (.bool true)) (.p (.bool e)) undefA (.p (.bool false))) 0 ⟨[], [], [], M⟩ (finish [(8, 0)] (frS a0 a1 a2 b0 b1 b2 d (.ptr 2 0 0) (.ptr 3 0 0) (.p (.int .i64 (.ofNat k))) s8 (.ptr 4 0 0) (.ptr 5 0 0) (.p (.bool true)) (.p (.bool e)) undefA (.p (.bool false)))) = _
  refine Eq.trans (its_pure (x := takeN ic 2) (y := dropN ic 2) (s1 := ⟨[.p (.int .i64 d), .p (.int .i64 (.ofNat k))], [], [], M⟩) fun K => ?_) ?_
  · kernel_rfl
  refine (act_call [.p (.int .i64 d), .p (.int .i64 5)] (.p (.int .i64 (.ofNat n))) M [] (by kernel_rfl) (by kernel_rfl) (by kernel_rfl) (h5 _)).trans ?_
  kernel_rfl
theorem q8_0 (h5 : ∀ M, call 23 [.p (.int .i64 d), .p (.int .i64 5)] M = some (.ret (.p (.int .i64 (.ofNat 0))), M)) : evCode g8 call 300 (frS a0 a1 a2 b0 b1 b2 d (.ptr 2 0 0) (.ptr 3 0 0) (.p (.int .i64 (.ofNat 0))) undefA (.ptr 4 0 0) (.ptr 5 0 0) (.p (.bool true)) (.p (.bool e)) undefA (.p (.bool false))) ⟨6, obk a0 a1 a2 b0 b1 b2 c1 c2 0⟩ = some (.normal, frS a0 a1 a2 b0 b1 b2 d (.ptr 2 0 0) (.ptr 3 0 0) (.p (.int .i64 (.ofNat 0))) (.p (.bool false)) (.ptr 4 0 0) (.ptr 5 0 0) (.p (.bool true)) (.p (.bool e)) undefA (.p (.bool false)), ⟨6, obk a0 a1 a2 b0 b1 b2 c1 c2 0⟩) := by
  refine block_loop ?_
  refine loop_exit (n := 299) (body := evCode lb call 300) (fr := (frS a0 a1 a2 b0 b1 b2 d (.ptr 2 0 0) (.ptr 3 0 0) (.p (.int .i64 (.ofNat 0))) undefA (.ptr 4 0 0) (.ptr 5 0 0) (.p (.bool true)) (.p (.bool e)) undefA (.p (.bool false)))) (fr' := (frS a0 a1 a2 b0 b1 b2 d (.ptr 2 0 0) (.ptr 3 0 0) (.p (.int .i64 (.ofNat 0))) (.p (.bool false)) (.ptr 4 0 0) (.ptr 5 0 0) (.p (.bool true)) (.p (.bool e)) undefA (.p (.bool false)))) (M := ⟨6, obk a0 a1 a2 b0 b1 b2 c1 c2 0⟩) (M' := ⟨6, obk a0 a1 a2 b0 b1 b2 c1 c2 0⟩) (by
    rw [evCode_segs]
    refine (seg_step (qc call a0 a1 a2 b0 b1 b2 d e undefA 0 0 _ h5)).trans ?_
    kernel_rfl)
theorem q8_1 (h5 : ∀ M, call 23 [.p (.int .i64 d), .p (.int .i64 5)] M = some (.ret (.p (.int .i64 (.ofNat 1))), M)) : evCode g8 call 300 (frS a0 a1 a2 b0 b1 b2 d (.ptr 2 0 0) (.ptr 3 0 0) (.p (.int .i64 (.ofNat 0))) undefA (.ptr 4 0 0) (.ptr 5 0 0) (.p (.bool true)) (.p (.bool e)) undefA (.p (.bool false))) ⟨6, obk a0 a1 a2 b0 b1 b2 c1 c2 0⟩ = some (.normal, frS a0 a1 a2 b0 b1 b2 d (.ptr 2 0 0) (.ptr 3 0 0) (.p (.int .i64 (.ofNat 1))) (.p (.bool false)) (.ptr 4 0 0) (.ptr 5 0 0) (.p (.bool true)) (.p (.bool e)) undefA (.p (.bool false)), ⟨6, obk a0 a1 a2 b0 b1 b2 c1 c2 1⟩) := by
  refine block_loop ?_
  refine (loop_go (n := 299) (body := evCode lb call 300) (fr := (frS a0 a1 a2 b0 b1 b2 d (.ptr 2 0 0) (.ptr 3 0 0) (.p (.int .i64 (.ofNat 0))) undefA (.ptr 4 0 0) (.ptr 5 0 0) (.p (.bool true)) (.p (.bool e)) undefA (.p (.bool false)))) (fr' := (frS a0 a1 a2 b0 b1 b2 d (.ptr 2 0 0) (.ptr 3 0 0) (.p (.int .i64 (.ofNat 1))) (.p (.bool true)) (.ptr 4 0 0) (.ptr 5 0 0) (.p (.bool true)) (.p (.bool e)) undefA (.p (.bool false)))) (M := ⟨6, obk a0 a1 a2 b0 b1 b2 c1 c2 0⟩) (M' := ⟨6, obk a0 a1 a2 b0 b1 b2 c1 c2 1⟩) (by
    rw [evCode_segs]
    refine (seg_step (qc call a0 a1 a2 b0 b1 b2 d e undefA 0 1 _ h5)).trans ?_
    kernel_rfl)).trans ?_
  refine loop_exit (n := 298) (body := evCode lb call 300) (fr := (frS a0 a1 a2 b0 b1 b2 d (.ptr 2 0 0) (.ptr 3 0 0) (.p (.int .i64 (.ofNat 1))) (.p (.bool true)) (.ptr 4 0 0) (.ptr 5 0 0) (.p (.bool true)) (.p (.bool e)) undefA (.p (.bool false)))) (fr' := (frS a0 a1 a2 b0 b1 b2 d (.ptr 2 0 0) (.ptr 3 0 0) (.p (.int .i64 (.ofNat 1))) (.p (.bool false)) (.ptr 4 0 0) (.ptr 5 0 0) (.p (.bool true)) (.p (.bool e)) undefA (.p (.bool false)))) (M := ⟨6, obk a0 a1 a2 b0 b1 b2 c1 c2 1⟩) (M' := ⟨6, obk a0 a1 a2 b0 b1 b2 c1 c2 1⟩) (by
    rw [evCode_segs]
    refine (seg_step (qc call a0 a1 a2 b0 b1 b2 d e (.p (.bool true)) 1 1 _ h5)).trans ?_
    kernel_rfl)
theorem q8_2 (h5 : ∀ M, call 23 [.p (.int .i64 d), .p (.int .i64 5)] M = some (.ret (.p (.int .i64 (.ofNat 2))), M)) : evCode g8 call 300 (frS a0 a1 a2 b0 b1 b2 d (.ptr 2 0 0) (.ptr 3 0 0) (.p (.int .i64 (.ofNat 0))) undefA (.ptr 4 0 0) (.ptr 5 0 0) (.p (.bool true)) (.p (.bool e)) undefA (.p (.bool false))) ⟨6, obk a0 a1 a2 b0 b1 b2 c1 c2 0⟩ = some (.normal, frS a0 a1 a2 b0 b1 b2 d (.ptr 2 0 0) (.ptr 3 0 0) (.p (.int .i64 (.ofNat 2))) (.p (.bool false)) (.ptr 4 0 0) (.ptr 5 0 0) (.p (.bool true)) (.p (.bool e)) undefA (.p (.bool false)), ⟨6, obk a0 a1 a2 b0 b1 b2 c1 c2 2⟩) := by
  refine block_loop ?_
  refine (loop_go (n := 299) (body := evCode lb call 300) (fr := (frS a0 a1 a2 b0 b1 b2 d (.ptr 2 0 0) (.ptr 3 0 0) (.p (.int .i64 (.ofNat 0))) undefA (.ptr 4 0 0) (.ptr 5 0 0) (.p (.bool true)) (.p (.bool e)) undefA (.p (.bool false)))) (fr' := (frS a0 a1 a2 b0 b1 b2 d (.ptr 2 0 0) (.ptr 3 0 0) (.p (.int .i64 (.ofNat 1))) (.p (.bool true)) (.ptr 4 0 0) (.ptr 5 0 0) (.p (.bool true)) (.p (.bool e)) undefA (.p (.bool false)))) (M := ⟨6, obk a0 a1 a2 b0 b1 b2 c1 c2 0⟩) (M' := ⟨6, obk a0 a1 a2 b0 b1 b2 c1 c2 1⟩) (by
    rw [evCode_segs]
    refine (seg_step (qc call a0 a1 a2 b0 b1 b2 d e undefA 0 2 _ h5)).trans ?_
    kernel_rfl)).trans ?_
  refine (loop_go (n := 298) (body := evCode lb call 300) (fr := (frS a0 a1 a2 b0 b1 b2 d (.ptr 2 0 0) (.ptr 3 0 0) (.p (.int .i64 (.ofNat 1))) (.p (.bool true)) (.ptr 4 0 0) (.ptr 5 0 0) (.p (.bool true)) (.p (.bool e)) undefA (.p (.bool false)))) (fr' := (frS a0 a1 a2 b0 b1 b2 d (.ptr 2 0 0) (.ptr 3 0 0) (.p (.int .i64 (.ofNat 2))) (.p (.bool true)) (.ptr 4 0 0) (.ptr 5 0 0) (.p (.bool true)) (.p (.bool e)) undefA (.p (.bool false)))) (M := ⟨6, obk a0 a1 a2 b0 b1 b2 c1 c2 1⟩) (M' := ⟨6, obk a0 a1 a2 b0 b1 b2 c1 c2 2⟩) (by
    rw [evCode_segs]
    refine (seg_step (qc call a0 a1 a2 b0 b1 b2 d e (.p (.bool true)) 1 2 _ h5)).trans ?_
    kernel_rfl)).trans ?_
  refine loop_exit (n := 297) (body := evCode lb call 300) (fr := (frS a0 a1 a2 b0 b1 b2 d (.ptr 2 0 0) (.ptr 3 0 0) (.p (.int .i64 (.ofNat 2))) (.p (.bool true)) (.ptr 4 0 0) (.ptr 5 0 0) (.p (.bool true)) (.p (.bool e)) undefA (.p (.bool false)))) (fr' := (frS a0 a1 a2 b0 b1 b2 d (.ptr 2 0 0) (.ptr 3 0 0) (.p (.int .i64 (.ofNat 2))) (.p (.bool false)) (.ptr 4 0 0) (.ptr 5 0 0) (.p (.bool true)) (.p (.bool e)) undefA (.p (.bool false)))) (M := ⟨6, obk a0 a1 a2 b0 b1 b2 c1 c2 2⟩) (M' := ⟨6, obk a0 a1 a2 b0 b1 b2 c1 c2 2⟩) (by
    rw [evCode_segs]
    refine (seg_step (qc call a0 a1 a2 b0 b1 b2 d e (.p (.bool true)) 2 2 _ h5)).trans ?_
    kernel_rfl)
theorem q8_3 (h5 : ∀ M, call 23 [.p (.int .i64 d), .p (.int .i64 5)] M = some (.ret (.p (.int .i64 (.ofNat 3))), M)) : evCode g8 call 300 (frS a0 a1 a2 b0 b1 b2 d (.ptr 2 0 0) (.ptr 3 0 0) (.p (.int .i64 (.ofNat 0))) undefA (.ptr 4 0 0) (.ptr 5 0 0) (.p (.bool true)) (.p (.bool e)) undefA (.p (.bool false))) ⟨6, obk a0 a1 a2 b0 b1 b2 c1 c2 0⟩ = some (.normal, frS a0 a1 a2 b0 b1 b2 d (.ptr 2 0 0) (.ptr 3 0 0) (.p (.int .i64 (.ofNat 3))) (.p (.bool false)) (.ptr 4 0 0) (.ptr 5 0 0) (.p (.bool true)) (.p (.bool e)) undefA (.p (.bool false)), ⟨6, obk a0 a1 a2 b0 b1 b2 c1 c2 3⟩) := by
  refine block_loop ?_
  refine (loop_go (n := 299) (body := evCode lb call 300) (fr := (frS a0 a1 a2 b0 b1 b2 d (.ptr 2 0 0) (.ptr 3 0 0) (.p (.int .i64 (.ofNat 0))) undefA (.ptr 4 0 0) (.ptr 5 0 0) (.p (.bool true)) (.p (.bool e)) undefA (.p (.bool false)))) (fr' := (frS a0 a1 a2 b0 b1 b2 d (.ptr 2 0 0) (.ptr 3 0 0) (.p (.int .i64 (.ofNat 1))) (.p (.bool true)) (.ptr 4 0 0) (.ptr 5 0 0) (.p (.bool true)) (.p (.bool e)) undefA (.p (.bool false)))) (M := ⟨6, obk a0 a1 a2 b0 b1 b2 c1 c2 0⟩) (M' := ⟨6, obk a0 a1 a2 b0 b1 b2 c1 c2 1⟩) (by
    rw [evCode_segs]
    refine (seg_step (qc call a0 a1 a2 b0 b1 b2 d e undefA 0 3 _ h5)).trans ?_
    kernel_rfl)).trans ?_
  refine (loop_go (n := 298) (body := evCode lb call 300) (fr := (frS a0 a1 a2 b0 b1 b2 d (.ptr 2 0 0) (.ptr 3 0 0) (.p (.int .i64 (.ofNat 1))) (.p (.bool true)) (.ptr 4 0 0) (.ptr 5 0 0) (.p (.bool true)) (.p (.bool e)) undefA (.p (.bool false)))) (fr' := (frS a0 a1 a2 b0 b1 b2 d (.ptr 2 0 0) (.ptr 3 0 0) (.p (.int .i64 (.ofNat 2))) (.p (.bool true)) (.ptr 4 0 0) (.ptr 5 0 0) (.p (.bool true)) (.p (.bool e)) undefA (.p (.bool false)))) (M := ⟨6, obk a0 a1 a2 b0 b1 b2 c1 c2 1⟩) (M' := ⟨6, obk a0 a1 a2 b0 b1 b2 c1 c2 2⟩) (by
    rw [evCode_segs]
    refine (seg_step (qc call a0 a1 a2 b0 b1 b2 d e (.p (.bool true)) 1 3 _ h5)).trans ?_
    kernel_rfl)).trans ?_
  refine (loop_go (n := 297) (body := evCode lb call 300) (fr := (frS a0 a1 a2 b0 b1 b2 d (.ptr 2 0 0) (.ptr 3 0 0) (.p (.int .i64 (.ofNat 2))) (.p (.bool true)) (.ptr 4 0 0) (.ptr 5 0 0) (.p (.bool true)) (.p (.bool e)) undefA (.p (.bool false)))) (fr' := (frS a0 a1 a2 b0 b1 b2 d (.ptr 2 0 0) (.ptr 3 0 0) (.p (.int .i64 (.ofNat 3))) (.p (.bool true)) (.ptr 4 0 0) (.ptr 5 0 0) (.p (.bool true)) (.p (.bool e)) undefA (.p (.bool false)))) (M := ⟨6, obk a0 a1 a2 b0 b1 b2 c1 c2 2⟩) (M' := ⟨6, obk a0 a1 a2 b0 b1 b2 c1 c2 3⟩) (by
    rw [evCode_segs]
    refine (seg_step (qc call a0 a1 a2 b0 b1 b2 d e (.p (.bool true)) 2 3 _ h5)).trans ?_
    kernel_rfl)).trans ?_
  refine loop_exit (n := 296) (body := evCode lb call 300) (fr := (frS a0 a1 a2 b0 b1 b2 d (.ptr 2 0 0) (.ptr 3 0 0) (.p (.int .i64 (.ofNat 3))) (.p (.bool true)) (.ptr 4 0 0) (.ptr 5 0 0) (.p (.bool true)) (.p (.bool e)) undefA (.p (.bool false)))) (fr' := (frS a0 a1 a2 b0 b1 b2 d (.ptr 2 0 0) (.ptr 3 0 0) (.p (.int .i64 (.ofNat 3))) (.p (.bool false)) (.ptr 4 0 0) (.ptr 5 0 0) (.p (.bool true)) (.p (.bool e)) undefA (.p (.bool false)))) (M := ⟨6, obk a0 a1 a2 b0 b1 b2 c1 c2 3⟩) (M' := ⟨6, obk a0 a1 a2 b0 b1 b2 c1 c2 3⟩) (by
    rw [evCode_segs]
    refine (seg_step (qc call a0 a1 a2 b0 b1 b2 d e (.p (.bool true)) 3 3 _ h5)).trans ?_
    kernel_rfl)
theorem q8_4 (h5 : ∀ M, call 23 [.p (.int .i64 d), .p (.int .i64 5)] M = some (.ret (.p (.int .i64 (.ofNat 4))), M)) : evCode g8 call 300 (frS a0 a1 a2 b0 b1 b2 d (.ptr 2 0 0) (.ptr 3 0 0) (.p (.int .i64 (.ofNat 0))) undefA (.ptr 4 0 0) (.ptr 5 0 0) (.p (.bool true)) (.p (.bool e)) undefA (.p (.bool false))) ⟨6, obk a0 a1 a2 b0 b1 b2 c1 c2 0⟩ = some (.normal, frS a0 a1 a2 b0 b1 b2 d (.ptr 2 0 0) (.ptr 3 0 0) (.p (.int .i64 (.ofNat 4))) (.p (.bool false)) (.ptr 4 0 0) (.ptr 5 0 0) (.p (.bool true)) (.p (.bool e)) undefA (.p (.bool false)), ⟨6, obk a0 a1 a2 b0 b1 b2 c1 c2 4⟩) := by
  refine block_loop ?_
  refine (loop_go (n := 299) (body := evCode lb call 300) (fr := (frS a0 a1 a2 b0 b1 b2 d (.ptr 2 0 0) (.ptr 3 0 0) (.p (.int .i64 (.ofNat 0))) undefA (.ptr 4 0 0) (.ptr 5 0 0) (.p (.bool true)) (.p (.bool e)) undefA (.p (.bool false)))) (fr' := (frS a0 a1 a2 b0 b1 b2 d (.ptr 2 0 0) (.ptr 3 0 0) (.p (.int .i64 (.ofNat 1))) (.p (.bool true)) (.ptr 4 0 0) (.ptr 5 0 0) (.p (.bool true)) (.p (.bool e)) undefA (.p (.bool false)))) (M := ⟨6, obk a0 a1 a2 b0 b1 b2 c1 c2 0⟩) (M' := ⟨6, obk a0 a1 a2 b0 b1 b2 c1 c2 1⟩) (by
    rw [evCode_segs]
    refine (seg_step (qc call a0 a1 a2 b0 b1 b2 d e undefA 0 4 _ h5)).trans ?_
    kernel_rfl)).trans ?_
  refine (loop_go (n := 298) (body := evCode lb call 300) (fr := (frS a0 a1 a2 b0 b1 b2 d (.ptr 2 0 0) (.ptr 3 0 0) (.p (.int .i64 (.ofNat 1))) (.p (.bool true)) (.ptr 4 0 0) (.ptr 5 0 0) (.p (.bool true)) (.p (.bool e)) undefA (.p (.bool false)))) (fr' := (frS a0 a1 a2 b0 b1 b2 d (.ptr 2 0 0) (.ptr 3 0 0) (.p (.int .i64 (.ofNat 2))) (.p (.bool true)) (.ptr 4 0 0) (.ptr 5 0 0) (.p (.bool true)) (.p (.bool e)) undefA (.p (.bool false)))) (M := ⟨6, obk a0 a1 a2 b0 b1 b2 c1 c2 1⟩) (M' := ⟨6, obk a0 a1 a2 b0 b1 b2 c1 c2 2⟩) (by
    rw [evCode_segs]
    refine (seg_step (qc call a0 a1 a2 b0 b1 b2 d e (.p (.bool true)) 1 4 _ h5)).trans ?_
    kernel_rfl)).trans ?_
  refine (loop_go (n := 297) (body := evCode lb call 300) (fr := (frS a0 a1 a2 b0 b1 b2 d (.ptr 2 0 0) (.ptr 3 0 0) (.p (.int .i64 (.ofNat 2))) (.p (.bool true)) (.ptr 4 0 0) (.ptr 5 0 0) (.p (.bool true)) (.p (.bool e)) undefA (.p (.bool false)))) (fr' := (frS a0 a1 a2 b0 b1 b2 d (.ptr 2 0 0) (.ptr 3 0 0) (.p (.int .i64 (.ofNat 3))) (.p (.bool true)) (.ptr 4 0 0) (.ptr 5 0 0) (.p (.bool true)) (.p (.bool e)) undefA (.p (.bool false)))) (M := ⟨6, obk a0 a1 a2 b0 b1 b2 c1 c2 2⟩) (M' := ⟨6, obk a0 a1 a2 b0 b1 b2 c1 c2 3⟩) (by
    rw [evCode_segs]
    refine (seg_step (qc call a0 a1 a2 b0 b1 b2 d e (.p (.bool true)) 2 4 _ h5)).trans ?_
    kernel_rfl)).trans ?_
  refine (loop_go (n := 296) (body := evCode lb call 300) (fr := (frS a0 a1 a2 b0 b1 b2 d (.ptr 2 0 0) (.ptr 3 0 0) (.p (.int .i64 (.ofNat 3))) (.p (.bool true)) (.ptr 4 0 0) (.ptr 5 0 0) (.p (.bool true)) (.p (.bool e)) undefA (.p (.bool false)))) (fr' := (frS a0 a1 a2 b0 b1 b2 d (.ptr 2 0 0) (.ptr 3 0 0) (.p (.int .i64 (.ofNat 4))) (.p (.bool true)) (.ptr 4 0 0) (.ptr 5 0 0) (.p (.bool true)) (.p (.bool e)) undefA (.p (.bool false)))) (M := ⟨6, obk a0 a1 a2 b0 b1 b2 c1 c2 3⟩) (M' := ⟨6, obk a0 a1 a2 b0 b1 b2 c1 c2 4⟩) (by
    rw [evCode_segs]
    refine (seg_step (qc call a0 a1 a2 b0 b1 b2 d e (.p (.bool true)) 3 4 _ h5)).trans ?_
    kernel_rfl)).trans ?_
  refine loop_exit (n := 295) (body := evCode lb call 300) (fr := (frS a0 a1 a2 b0 b1 b2 d (.ptr 2 0 0) (.ptr 3 0 0) (.p (.int .i64 (.ofNat 4))) (.p (.bool true)) (.ptr 4 0 0) (.ptr 5 0 0) (.p (.bool true)) (.p (.bool e)) undefA (.p (.bool false)))) (fr' := (frS a0 a1 a2 b0 b1 b2 d (.ptr 2 0 0) (.ptr 3 0 0) (.p (.int .i64 (.ofNat 4))) (.p (.bool false)) (.ptr 4 0 0) (.ptr 5 0 0) (.p (.bool true)) (.p (.bool e)) undefA (.p (.bool false)))) (M := ⟨6, obk a0 a1 a2 b0 b1 b2 c1 c2 4⟩) (M' := ⟨6, obk a0 a1 a2 b0 b1 b2 c1 c2 4⟩) (by
    rw [evCode_segs]
    refine (seg_step (qc call a0 a1 a2 b0 b1 b2 d e (.p (.bool true)) 4 4 _ h5)).trans ?_
    kernel_rfl)
end
end Go.Ab
