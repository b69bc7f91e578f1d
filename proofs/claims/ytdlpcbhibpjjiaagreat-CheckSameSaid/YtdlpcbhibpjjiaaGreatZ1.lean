/- A function's code, piece by piece. CheckSame: the functions that it calls, in the evaluator's words. CheckSame: its environment; calls of pure values. -/
import Derived.Test.YtdlpcbhibpjjiaaGreatA7
import Derived.Test.YtdlpcbhibpjjiaaGreatY1
namespace Go.Ab
set_option maxRecDepth 8000
set_option linter.unusedSimpArgs false
set_option linter.unusedVariables false
noncomputable def segs (c : CCode) : List CCode :=
  CCode.rec (motive := fun _ => List CCode) [.skip] (fun its wb => [.reg its wb]) (fun r t => [.dreg r t]) (fun s ws b _ => [.amb s ws b]) (fun _ _ x y => app x y) (fun c a b _ _ => [.cond c a b]) (fun i b _ => [.block i b]) (fun b _ => [.loop b]) (fun i => [.exit i]) [.ret] [.bad] c
noncomputable def evSegs (l : List CCode) : Cll → Nat → Rn :=
  List.rec (motive := fun _ => Cll → Nat → Rn) (fun _ _ fr M => some (.normal, fr, M)) (fun c _ ih call n fr M => ob (evCode c call n fr M) fun r => exCases r.1 (ih call n r.2.1 r.2.2) (fun _ => some r) (some r)) l
theorem exCases_eta {call : Cll} {n : Nat} (x : Out) : (ob x fun r => exCases r.1 (some (.normal, r.2.1, r.2.2)) (fun _ => some r) (some r)) = x := by
  cases x with
  | none => rfl
  | some r =>
    obtain ⟨e, fr, M⟩ := r
    cases e <;> rfl
theorem evSegs_app (l m : List CCode) (call : Cll) (n : Nat) (fr : Fr) (M : Mem) : evSegs (l ++ m) call n fr M = ob (evSegs l call n fr M) fun r => exCases r.1 (evSegs m call n r.2.1 r.2.2) (fun _ => some r) (some r) := by
  induction l generalizing fr M with
  | nil => rfl
  | cons c l ih =>
    show (ob (evCode c call n fr M) fun r => exCases r.1 (evSegs (l ++ m) call n r.2.1 r.2.2) (fun _ => some r) (some r)) = ob (ob (evCode c call n fr M) fun r => exCases r.1 (evSegs l call n r.2.1 r.2.2) (fun _ => some r) (some r)) _
    cases evCode c call n fr M with
    | none => rfl
    | some r =>
      obtain ⟨e, fr', M'⟩ := r
      cases e with
      | normal => exact ih fr' M'
      | _ => rfl
theorem evCode_segs (c : CCode) (call : Cll) (n : Nat) (fr : Fr) (M : Mem) : evCode c call n fr M = evSegs (segs c) call n fr M := by
  have one : ∀ c : CCode, segs c = [c] → evCode c call n fr M = evSegs (segs c) call n fr M := fun c h => by
    rw [h]
    exact (exCases_eta (call := call) (n := n) _).symm
  induction c generalizing fr M with
  | seq a b iha ihb =>
    show (ob (evCode a call n fr M) fun r => exCases r.1 (evCode b call n r.2.1 r.2.2) (fun _ => some r) (some r)) = evSegs (app (segs a) (segs b)) call n fr M
    rw [app_eq, evSegs_app, iha fr M (fun c h => by rw [h]; exact (exCases_eta (call := call) (n := n) _).symm)]
    congr 1
    funext r
    obtain ⟨e, fr', M'⟩ := r
    cases e with
    | normal => exact ihb fr' M' (fun c h => by rw [h]; exact (exCases_eta (call := call) (n := n) _).symm)
    | _ => rfl
  | _ => exact one _ rfl
end Go.Ab
namespace Go.Ab
set_option maxRecDepth 8000
open Go.Proofs Go.RowKit
set_option linter.unusedVariables false
set_option linter.unusedSimpArgs false
/-- A contract that makes nothing and answers a pure value. -/
theorem run_of {f : Nat} {vs : List AV} {v : AV} {M : Mem} (hk : Known Tryz.prog f) (hM : M = ⟨0, []⟩)
    (h : ∀ (O : Bl) (G : Gm) (n : Nat → Prop) (w : World) (xs : List Value), RL w O G n vs xs → Calls Tryz.prog f ⟨xs⟩ w fun e w' => ∃ x, e = .returned x ∧ (∀ O' G' n', R w' O' G' n' v x) ∧ Ev (fun _ => False) w w') : RunOk Tryz.prog f vs M (.ret v) M := by
  subst hM
  intro G w xs hS hRL
  refine ⟨hk, (h _ _ _ w xs hRL).mono fun e w' => ?_⟩
  rintro ⟨x, rfl, hr, hE⟩
  obtain ⟨h1, _⟩ := hS.box hE (X' := G.X) (fun b hb => Nat.lt_of_lt_of_le (hS.ltX b hb) hE.size) (fun b hb _ => hb) fun b hb => hb
  exact ⟨G, ⟨h1, hE.mono fun _ h => h.elim, rfl, fun _ h => h, fun _ _ => rfl, fun _ _ h => h⟩, Nat.le_refl _, x, rfl, hr _ _ _⟩
def modI (x : Int) (m : Nat) : Int := (x.tmod m + m).tmod m
theorem modI_lt (x : Int) (m : Nat) (hm : 0 < m) : 0 ≤ modI x m ∧ modI x m < m := by
  have h1 := tmod_small x m hm
  have h2 := tmod_small (x.tmod m + m) m hm
  exact ⟨Int.tmod_nonneg _ (by omega), h2.2⟩
theorem mod_val (x : Int) (m : Nat) (hm : m = 4 ∨ m = 5) (w : World) :
    Calls Tryz.prog 23 #[.int .i64 x, .int .i64 m] w fun e w' => e = .returned (.int .i64 (modI x m)) ∧ w' = w := by
  have hb := tmod_small x m (by omega)
  have hw : wrap64 (x.tmod m + m) = x.tmod m + m := by
    have : m ≤ 5 := by omega
    unfold wrap64; omega
  have HH := Lib.hid hw
  clear hb hw
  go_enter Tryz.func23, Tryz.ntmps23
  rcases hm with rfl | rfl
  · go_wp2
    go_ret
    have h1 : wrap64 (x.tmod 4 + 4) = x.tmod 4 + 4 := HH.out
    refine ⟨?_, rfl⟩
    show Ending.returned (.int .i64 ((wrap64 (x.tmod 4 + 4)).tmod 4)) = _
    rw [h1]; rfl
  · go_wp2
    go_ret
    have h1 : wrap64 (x.tmod 5 + 5) = x.tmod 5 + 5 := HH.out
    refine ⟨?_, rfl⟩
    show Ending.returned (.int .i64 ((wrap64 (x.tmod 5 + 5)).tmod 5)) = _
    rw [h1]; rfl
noncomputable def isE (M : Mem) : Bool := bf (Nat.beq M.next 0) (List.casesOn (motive := fun _ => Bool) M.objs true (fun _ _ => false)) false
theorem isE_some {M : Mem} (h : isE M = true) : M = ⟨0, []⟩ := by
  obtain ⟨n, l⟩ := M
  have h : bf (Nat.beq n 0) (List.casesOn (motive := fun _ => Bool) l true (fun _ _ => false)) false = true := h
  rw [bf_and, Bool.and_eq_true] at h
  obtain rfl := Nat.eq_of_beq_eq_true h.1
  cases l with
  | nil => rfl
  | cons _ _ => exact absurd h.2 (by simp)
noncomputable def e11 (args : List AV) (M : Mem) : Option (Rs × Mem) := match args with
  | [] => bf (isE M) (some (.ret (.p (.bool true)), M)) none
  | _ => none
noncomputable def e23 (args : List AV) (M : Mem) : Option (Rs × Mem) := match args with
  | [.p (.int .i64 x), .p (.int .i64 (.ofNat m))] => bf (isE M) (bf (bf (Nat.beq m 4) true (Nat.beq m 5)) (some (.ret (.p (.int .i64 (modI x m))), M)) none) none
  | _ => none
open Classical in
noncomputable def e24 (args : List AV) (M : Mem) : Option (Rs × Mem) := match args with
  | [.p (.int .i64 x)] => bf (isE M) (bf (decide (0 ≤ x ∧ x < 4)) (some (.ret (.p (.str [48 + x.toNat])), M)) none) none
  | _ => none
open Classical in
noncomputable def e25 (args : List AV) (M : Mem) : Option (Rs × Mem) := match args with
  | [.p (.agg t), .p (.agg u)] => bf (isE M) (bf (decide (Ty 9 t ∧ Ty 9 u)) (some (.ret (.p (.bool (decide (t = u)))), M)) none) none
  | _ => none
theorem xs_nil {xs : List Value} (h : (0 : Nat) = xs.length) : xs = [] := List.length_eq_zero_iff.1 h.symm
theorem e11_ok {vs : List AV} {M M' : Mem} {r : Rs} (h : e11 vs M = some (r, M')) : RunOk Tryz.prog 11 vs M r M' := by
  unfold e11 at h
  split at h <;> try (cases h; done)
  obtain ⟨hM, h⟩ := bf_some.1 h
  cases h
  refine run_of ⟨_, Tryz.func11, by kernel_rfl, by kernel_rfl⟩ (isE_some hM) fun O G n w xs hx => ?_
  obtain rfl := xs_nil hx.1
  refine (sanity_any w).mono fun e w' => ?_
  rintro ⟨rfl, hE⟩
  exact ⟨_, rfl, fun _ _ _ => R.p (.bool _), hE⟩
theorem e23_ok {vs : List AV} {M M' : Mem} {r : Rs} (h : e23 vs M = some (r, M')) : RunOk Tryz.prog 23 vs M r M' := by
  unfold e23 at h
  split at h <;> try (cases h; done)
  rename_i x m
  obtain ⟨hM, h⟩ := bf_some.1 h
  obtain ⟨hm, h⟩ := bf_some.1 h
  cases h
  have hm' : m = 4 ∨ m = 5 := by
    cases hb : Nat.beq m 4 with
    | true => exact .inl (Nat.eq_of_beq_eq_true hb)
    | false => rw [hb] at hm; exact .inr (Nat.eq_of_beq_eq_true hm)
  refine run_of ⟨_, Tryz.func23, by kernel_rfl, by kernel_rfl⟩ (isE_some hM) fun O G n w xs hx => ?_
  obtain ⟨y1, y2, rfl⟩ : ∃ y1 y2, xs = [y1, y2] := by
    have := hx.1
    match xs, this with
    | [y1, y2], _ => exact ⟨y1, y2, rfl⟩
  obtain rfl := (hx.2 0 _ y1 rfl rfl).int_val
  obtain rfl := (hx.2 1 _ y2 rfl rfl).int_val
  refine (mod_val x m hm' w).mono fun e w' => ?_
  rintro ⟨rfl, rfl⟩
  exact ⟨_, rfl, fun _ _ _ => R.p (.int _ _), .refl _ _⟩
open Classical in
theorem e24_ok {vs : List AV} {M M' : Mem} {r : Rs} (h : e24 vs M = some (r, M')) : RunOk Tryz.prog 24 vs M r M' := by
  unfold e24 at h
  split at h <;> try (cases h; done)
  rename_i x
  obtain ⟨hM, h⟩ := bf_some.1 h
  obtain ⟨hm, h⟩ := bf_some.1 h
  cases h
  have hm := of_decide_eq_true hm
  obtain ⟨k, rfl⟩ : ∃ k : Nat, x = (k : Int) := ⟨x.toNat, by omega⟩
  refine run_of ⟨_, Tryz.func24, by kernel_rfl, by kernel_rfl⟩ (isE_some hM) fun O G n w xs hx => ?_
  obtain ⟨y1, rfl⟩ : ∃ y1, xs = [y1] := by
    have := hx.1
    match xs, this with
    | [y1], _ => exact ⟨y1, rfl⟩
  obtain rfl := (hx.2 0 _ y1 rfl rfl).int_val
  refine (digits_any k (by omega) w).mono fun e w' => ?_
  rintro ⟨⟨b, rfl, hb⟩, hE⟩
  exact ⟨_, rfl, fun _ _ _ => R.p (.str _ _ (by simpa using hb)), hE⟩
open Classical in
theorem e25_ok {vs : List AV} {M M' : Mem} {r : Rs} (h : e25 vs M = some (r, M')) : RunOk Tryz.prog 25 vs M r M' := by
  unfold e25 at h
  split at h <;> try (cases h; done)
  rename_i t u
  obtain ⟨hM, h⟩ := bf_some.1 h
  obtain ⟨hm, h⟩ := bf_some.1 h
  cases h
  have hm := of_decide_eq_true hm
  refine run_of ⟨_, Tryz.func25, by kernel_rfl, by kernel_rfl⟩ (isE_some hM) fun O G n w xs hx => ?_
  obtain ⟨y1, y2, rfl⟩ : ∃ y1 y2, xs = [y1, y2] := by
    have := hx.1
    match xs, this with
    | [y1, y2], _ => exact ⟨y1, y2, rfl⟩
  have h1 := hx.2 0 _ y1 rfl rfl
  have h2 := hx.2 1 _ y2 rfl rfl
  obtain ⟨h1, _⟩ := h1
  obtain ⟨h2, _⟩ := h2
  cases h1 with
  | p _ _ h1 =>
  cases h2 with
  | p _ _ h2 =>
  refine (same_ok O 9 t u hm.1 hm.2 w y1 y2 h1 h2).mono fun e w' => ?_
  rintro ⟨r, rfl, hr, hE⟩
  refine ⟨_, rfl, fun _ _ _ => ?_, hE⟩
  have : r = decide (t = u) := by
    cases r
    · symm; rw [decide_eq_false_iff_not]; intro h; have := hr.2 h; cases this
    · symm; rw [decide_eq_true_eq]; exact hr.1 rfl
  rw [this]
  exact R.p (.bool _)
end Go.Ab
namespace Go.Ab
set_option maxRecDepth 8000
open Go.Proofs Go.RowKit
set_option linter.unusedVariables false
set_option linter.unusedSimpArgs false
noncomputable def EX : Env := { EK with ext := fun f => bf (Nat.beq f 11) (some fun _ => e11) (bf (Nat.beq f 23) (some fun _ => e23) (bf (Nat.beq f 24) (some fun _ => e24) (bf (Nat.beq f 25) (some fun _ => e25) (extF f)))) }
theorem envX : EnvOk Tryz.prog EX := by
  refine ⟨fnF_ok, fun f e he call hc vs M r M' h => ?_⟩
  have he : bf (Nat.beq f 11) (some fun _ => e11) (bf (Nat.beq f 23) (some fun _ => e23) (bf (Nat.beq f 24) (some fun _ => e24) (bf (Nat.beq f 25) (some fun _ => e25) (extF f)))) = some e := he
  rcases bf_cases he with ⟨hb, he⟩ | ⟨_, he⟩
  · obtain rfl := Nat.eq_of_beq_eq_true hb
    cases he
    exact e11_ok h
  rcases bf_cases he with ⟨hb, he⟩ | ⟨_, he⟩
  · obtain rfl := Nat.eq_of_beq_eq_true hb
    cases he
    exact e23_ok h
  rcases bf_cases he with ⟨hb, he⟩ | ⟨_, he⟩
  · obtain rfl := Nat.eq_of_beq_eq_true hb
    cases he
    exact e24_ok h
  rcases bf_cases he with ⟨hb, he⟩ | ⟨_, he⟩
  · obtain rfl := Nat.eq_of_beq_eq_true hb
    cases he
    exact e25_ok h
  · exact extF_ok f e he call hc vs M r M' h
theorem callX_ok (fuel n me : Nat) : CllOk Tryz.prog (callE EX fuel n me) := callE_ok (by kernel_rfl) envX n me
theorem close_nil (objs : Objs) (n : Nat) (acc : List Nat) : close objs (n + 1) [] acc = some acc := rfl
theorem reach_nil {objs : Objs} {args : List AV} (h : refsL args = []) : reach objs args = some [] := by
  unfold reach
  rw [h]
  exact close_nil objs 3999 []
theorem keep_all (objs : Objs) : List.rec (motive := fun _ => Objs) [] (fun p _ ih => bf (memN p.1 []) ih (p :: ih)) objs = objs := by
  induction objs with
  | nil => rfl
  | cons p l ih =>
    show p :: List.rec (motive := fun _ => Objs) [] (fun p _ ih => bf (memN p.1 []) ih (p :: ih)) l = p :: l
    rw [ih]
theorem refs_pure (ps : List PV) : refsL (ps.map AV.p) = [] := by
  induction ps with
  | nil => rfl
  | cons p l ih => rw [List.map_cons, refsL_cons, ih]; rfl
theorem ren_pure (ρ : Nat → Nat) (ps : List PV) : mapL (ren ρ) (ps.map AV.p) = ps.map AV.p := by
  rw [mapL_eq, List.map_map]
  rfl
theorem iso_pure {run : List AV → Mem → Option (Rs × Mem)} {ps : List PV} {M : Mem} {v : PV} (h : run (ps.map .p) ⟨0, []⟩ = some (.ret (.p v), ⟨0, []⟩)) : iso run (ps.map .p) M = some (.ret (.p v), M) := by
  unfold iso
  rw [reach_nil (refs_pure ps)]
  show (ob (run (mapL (ren fun i => posN i []) (ps.map .p)) ⟨0, []⟩) fun r => _) = _
  rw [ren_pure, h]
  show some (Rs.ret (AV.p v), (⟨M.next + 0, app [] (List.rec (motive := fun _ => Objs) [] (fun p _ ih => bf (memN p.1 []) ih (p :: ih)) M.objs)⟩ : Mem)) = _
  rw [keep_all, app_eq]
  rfl
theorem weak_pure (ps : List PV) (hw : ∀ p ∈ ps, weak (.p p) = none) : mapL weakA (ps.map AV.p) = ps.map AV.p := by
  rw [mapL_eq, List.map_map]
  refine List.map_congr_left fun p hp => ?_
  show Option.rec (motive := fun _ => AV) (.p p) .p (weak (.p p)) = _
  rw [hw p hp]
theorem x11 (fuel n me : Nat) (hme : EX.how me 11 = 0) (M : Mem) : callE EX fuel (n + 1) me 11 [] M = some (.ret (.p (.bool true)), M) := by
  show callP (EX.how me 11) (runE EX fuel (callE EX fuel n) me 11) [] M = _
  rw [hme]
  have h : runE EX fuel (callE EX fuel n) me 11 (([] : List PV).map AV.p) ⟨0, []⟩ = some (.ret (.p (.bool true)), ⟨0, []⟩) := by kernel_rfl
  exact iso_pure h
theorem x23 (fuel n me : Nat) (hme : EX.how me 23 = 0) (x : Int) (m : Nat) (hm : m = 4 ∨ m = 5) (M : Mem) : callE EX fuel (n + 1) me 23 [.p (.int .i64 x), .p (.int .i64 (.ofNat m))] M = some (.ret (.p (.int .i64 (modI x m))), M) := by
  show callP (EX.how me 23) (runE EX fuel (callE EX fuel n) me 23) [.p (.int .i64 x), .p (.int .i64 (.ofNat m))] M = _
  rw [hme]
  have h : runE EX fuel (callE EX fuel n) me 23 ([.int .i64 x, .int .i64 (.ofNat m)].map AV.p) ⟨0, []⟩ = some (.ret (.p (.int .i64 (modI x m))), ⟨0, []⟩) := by
    rcases hm with rfl | rfl
    · kernel_rfl
    · kernel_rfl
  exact iso_pure h
open Classical in
theorem x24 (fuel n me : Nat) (hme : EX.how me 24 = 0) (x : Int) (hx : 0 ≤ x ∧ x < 4) (M : Mem) : callE EX fuel (n + 1) me 24 [.p (.int .i64 x)] M = some (.ret (.p (.str [48 + x.toNat])), M) := by
  show callP (EX.how me 24) (runE EX fuel (callE EX fuel n) me 24) [.p (.int .i64 x)] M = _
  rw [hme]
  have h : runE EX fuel (callE EX fuel n) me 24 ([.int .i64 x].map AV.p) ⟨0, []⟩ = some (.ret (.p (.str [48 + x.toNat])), ⟨0, []⟩) := by
    show bf true (bf (decide (0 ≤ x ∧ x < 4)) (some (Rs.ret (.p (.str [48 + x.toNat])), (⟨0, []⟩ : Mem))) none) none = _
    rw [decide_eq_true hx]
  exact iso_pure h
open Classical in
theorem x25 (fuel n me : Nat) (hme : EX.how me 25 = 2) (t u : List PV) (ht : Ty 9 t) (hu : Ty 9 u) (M : Mem) (a b : AV) (ha : toPV 0 M.objs 12 a = some (.agg t)) (hb : toPV 0 M.objs 12 b = some (.agg u)) : callE EX fuel (n + 1) me 25 [a, b] M = some (.ret (.p (.bool (decide (t = u)))), M) := by
  show callP (EX.how me 25) (runE EX fuel (callE EX fuel n) me 25) [a, b] M = _
  rw [hme]
  show pureCall (runE EX fuel (callE EX fuel n) me 25) [a, b] M = _
  unfold pureCall
  have hm : mapO (toPV 0 M.objs 12) [a, b] = some [.agg t, .agg u] := by
    show ob (toPV 0 M.objs 12 a) _ = _
    rw [ha]
    show ob (ob (toPV 0 M.objs 12 b) _) _ = _
    rw [hb]
  rw [hm]
  have h : runE EX fuel (callE EX fuel n) me 25 (mapL .p [.agg t, .agg u]) ⟨0, []⟩ = some (.ret (.p (.bool (decide (t = u)))), ⟨0, []⟩) := by
    show bf true (bf (decide (Ty 9 t ∧ Ty 9 u)) (some (Rs.ret (.p (.bool (decide (t = u)))), (⟨0, []⟩ : Mem))) none) none = _
    rw [decide_eq_true (And.intro ht hu)]
  show (ob (runE EX fuel (callE EX fuel n) me 25 (mapL .p [.agg t, .agg u]) ⟨0, []⟩) fun r => _) = _
  rw [h]
  rfl
theorem how10 : EX.how 10 11 = 0 ∧ EX.how 10 23 = 0 ∧ EX.how 10 24 = 0 ∧ EX.how 10 25 = 2 := ⟨by kernel_rfl, by kernel_rfl, by kernel_rfl, by kernel_rfl⟩
end Go.Ab
