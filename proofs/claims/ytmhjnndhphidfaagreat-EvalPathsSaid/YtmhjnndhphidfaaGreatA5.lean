/- One operation, whatever it is: what the evaluator says of it holds. Regions in the order of the text. Parts of the memory: what is shown over a part holds over the whole. Regions that draw their order: what the evaluator's tree says. Regions that draw their order: the pieces. -/
import Derived.Test.YtmhjnndhphidfaaGreatA4
namespace Go.Ab
set_option maxRecDepth 8000
set_option linter.unusedVariables false
set_option linter.unusedSimpArgs false
def Free (nx : Nat) (B : Nat → Prop) : Prop := ∀ i, nx ≤ i → ¬ B i
/-- The numbers in use behind a step: those from nx to nx', and no others. -/
structure Grow (nx nx' : Nat) (B B' : Nat → Prop) : Prop where
  le : nx ≤ nx'
  new : ∀ i, B' i → B i ∨ (nx ≤ i ∧ i < nx')
theorem Grow.refl {nx : Nat} {B : Nat → Prop} : Grow nx nx B B := ⟨Nat.le_refl _, fun _ h => .inl h⟩
theorem Grow.trans {nx nx' nx'' : Nat} {B B' B'' : Nat → Prop} (h : Grow nx nx' B B') (k : Grow nx' nx'' B' B'') : Grow nx nx'' B B'' :=
  ⟨Nat.le_trans h.le k.le, fun i hi => by
    have h1 := h.le
    have k1 := k.le
    rcases k.new i hi with hi | hi
    · rcases h.new i hi with hi | hi
      · exact .inl hi
      · exact .inr ⟨hi.1, by omega⟩
    · exact .inr ⟨by omega, hi.2⟩⟩
theorem Grow.free {nx nx' : Nat} {B B' : Nat → Prop} (h : Grow nx nx' B B') (k : Free nx B) : Free nx' B' := fun i hi hb => by
  have h1 := h.le
  rcases h.new i hb with hb | hb
  · exact k i (by omega) hb
  · omega
theorem NextB.grow {nx nx' : Nat} {B B' : Nat → Prop} (h : NextB nx nx' B B') : Grow nx nx' B B' := by
  rcases h with ⟨rfl, rfl⟩ | ⟨rfl, rfl⟩
  · exact .refl
  · refine ⟨Nat.le_succ _, fun i hi => ?_⟩
    rcases hi with hi | rfl
    · exact .inl hi
    · exact .inr ⟨Nat.le_refl _, Nat.lt_succ_self _⟩
theorem NextB.free {nx nx' : Nat} {B B' : Nat → Prop} (h : NextB nx nx' B B') (k : Free nx B) : Free nx' B' := by
  rcases h with ⟨rfl, rfl⟩ | ⟨rfl, rfl⟩
  · exact k
  · rintro i hi (h | rfl)
    · exact k i (by omega) h
    · omega
theorem NextB.le {nx nx' : Nat} {B B' : Nat → Prop} (h : NextB nx nx' B B') : nx ≤ nx' := by
  rcases h with ⟨rfl, rfl⟩ | ⟨rfl, rfl⟩ <;> omega
section
variable {P : Program} {objs objs' : Objs} {B B' : Nat → Prop} {G G' : Gm} {w w' : World} {ρ : Rho} {fr : Fr} {env : List AV} {a : Act}
/-- A function that can be called. -/
def Known (P : Program) (f : Nat) : Prop := ∃ fn, P.funcs[f]? = some fn ∧ (fn.name == "runtime.NumGoroutine") = false ∧ fn.body.isNone = false
def EndOk (r : Rs) (e : Ending) (rel : AV → Value → Prop) : Prop := match r with
  | .ret v => ∃ x, e = .returned x ∧ rel v x
  | .pan v => ∃ x, e = .panicked [{ v := x, recovered := false }] ∧ rel v x
/-- What is shown of a call. -/
def CallOk (P : Program) (f : Nat) (vs : List AV) (M : Mem) (r : Rs) (M' : Mem) : Prop :=
  ∀ (B : Nat → Prop) (G : Gm) (w : World) (xs : List Value), St M.objs B G w → Free M.next B → RL w (Own M.objs G) G B vs xs →
    Known P f ∧ Calls P f ⟨xs⟩ w fun e w' => ∃ B' G', Post M.objs B G w M'.objs B' G' w' ∧ Grow M.next M'.next B B' ∧ EndOk r e (R w' (Own M'.objs G') G' B')
/-- What a step leaves alone: objects that it does not touch; and it makes none with a number that is older. -/
structure Frm (t : Bool) (tch : List Nat) (M M' : Mem) : Prop where
  keep : t = true → ∀ id o, getO id M.objs = some o → id < M.next → id ∉ tch → getO id M'.objs = some o
  none : ∀ id, id < M.next → getO id M.objs = none → getO id M'.objs = none
theorem Frm.refl {t : Bool} {tch : List Nat} {M : Mem} : Frm t tch M M := ⟨fun _ _ _ h _ _ => h, fun _ _ h => h⟩
theorem Frm.weak {t : Bool} {tch tch' : List Nat} {M M' : Mem} (h : Frm true tch M M') (hs : t = true → ∀ id ∈ tch, id ∈ tch') : Frm t tch' M M' := ⟨fun ht id o h1 h2 h3 => h.keep rfl id o h1 h2 fun hm => h3 (hs ht id hm), h.none⟩
theorem Frm.new {M : Mem} {o : Ob} {n : Nat} (hn : M.next ≤ n) : Frm true [] M ⟨n, (M.next, o) :: M.objs⟩ := by
  refine ⟨fun _ id o' h1 h2 _ => ?_, fun id h1 h2 => ?_⟩
  · show getO id ((M.next, o) :: M.objs) = _
    rw [getO_cons, if_neg (by omega)]; exact h1
  · show getO id ((M.next, o) :: M.objs) = _
    rw [getO_cons, if_neg (by omega)]; exact h2
theorem Frm.upd {M : Mem} {id : Nat} {o : Ob} : Frm true [id] M (M.upd id o) := by
  refine ⟨fun _ j o' h1 h2 h3 => ?_, fun j h1 h2 => ?_⟩
  · show getO j (setO id o M.objs) = _
    rw [getO_setO, if_neg (by simpa using h3)]; exact h1
  · show getO j (setO id o M.objs) = _
    rw [getO_setO]
    split
    · rename_i h; subst h; rw [h2]; rfl
    · exact h2
theorem Frm.move {M : Mem} {id : Nat} {o : Ob} {n : Nat} : Frm true [id] M ⟨n, (M.next, o) :: setO id .dead M.objs⟩ := by
  have hu : Frm true [id] M (M.upd id .dead) := .upd
  refine ⟨fun _ j o' h1 h2 h3 => ?_, fun j h1 h2 => ?_⟩
  · show getO j ((M.next, o) :: setO id .dead M.objs) = _
    rw [getO_cons, if_neg (by omega)]; exact hu.keep rfl j o' h1 h2 h3
  · show getO j ((M.next, o) :: setO id .dead M.objs) = _
    rw [getO_cons, if_neg (by omega)]; exact hu.none j h1 h2
theorem mapUpd_frm {M M' : Mem} {id : Nat} {k : PV} {x : AV} (h : mapUpd M id k x = some M') : Frm true [id] M M' := by
  obtain ⟨o, o', l, l', _, _, _, _, rfl⟩ := mapUpd_some h
  exact .upd
theorem evE_frm {op : EOp} {M : Mem} {r : AV × Mem} {fr env : List AV} (he : evE op fr env M = some r) : Frm true (touchE op fr env) M r.2 := by
  cases op with
  | store n x v =>
    simp only [evE, ob_some, bf_some] at he
    obtain ⟨u, hu, y, _, _, he⟩ := he
    rcases ptrCases_some he with ⟨id, i, off, rfl, he⟩ | ⟨es, i, off, rfl, he⟩
    · obtain ⟨o, ho, he⟩ := ob_some.1 he
      obtain ⟨o', ho', he⟩ := ob_some.1 he
      cases he
      have : touchE (.store n x v) fr env = [id] := by simp [touchE, hu]
      rw [this]
      exact .upd
    · cases he
  | mapSet kk m k x =>
    simp only [evE, ob_some, bf_some] at he
    obtain ⟨u, hu, k', _, x', _, k'', _, _, he⟩ := he
    rcases mapCases_some he with ⟨id, rfl, he⟩ | ⟨rfl, he⟩
    · obtain ⟨M', hM, he⟩ := ob_some.1 he
      cases he
      have : touchE (.mapSet kk m k x) fr env = [id] := by simp [touchE, hu]
      rw [this]
      exact mapUpd_frm hM
    · cases he
  | mkslice z l c =>
    simp only [evE, ob_some, bf_some] at he
    obtain ⟨_, _, _, _, _, _, _, _, _, _, he⟩ := he
    cases he
    exact .new (Nat.le_succ _)
  | copy x y =>
    simp only [evE, ob_some] at he
    obtain ⟨d, hd, v, _, u, _, he⟩ := he
    unfold copyA at he
    cases d with
    | row id t i n =>
      obtain ⟨_, he⟩ := bf_some.1 he
      simp only at he
      cases hb : bytes (takeN u n) with
      | nil =>
        rw [hb] at he
        cases he
        exact .refl
      | cons c l =>
        rw [hb] at he
        have he : ob (getO id M.objs) (fun o => ob (splO i (c :: l) o) fun o' => some (AV.p (.int .i64 (.ofNat (len (c :: l)))), M.upd id o')) = some r := he
        obtain ⟨o, _, he⟩ := ob_some.1 he
        obtain ⟨o', _, he⟩ := ob_some.1 he
        cases he
        have : touchE (.copy x y) fr env = [id] := by simp [touchE, hd]
        rw [this]
        exact .upd
    | _ => cases he
  | append s x y =>
    simp only [evE, ob_some] at he
    obtain ⟨va, hva, vb, hvb, n, hn, ea, hea, eb, heb, he⟩ := he
    cases hb : Nat.beq (sizeO eb) 0 with
    | true =>
      rw [hb] at he
      cases he
      exact .refl
    | false =>
      rw [hb] at he
      simp only [bf_false, bf_some, ob_some] at he
      obtain ⟨_, _, _, e, _, hres⟩ := he
      cases va with
      | nils =>
        cases hres
        exact (Frm.new (Nat.le_succ _)).weak fun _ _ h => absurd h (by simp)
      | lit es =>
        cases hres
        exact (Frm.new (Nat.le_succ _)).weak fun _ _ h => absurd h (by simp)
      | row id s' i n' =>
        have hres' : bf (Nat.beq s s') (some (AV.row M.next s 0 (sizeO e), (⟨M.next + 1, (M.next, e) :: setO id .dead M.objs⟩ : Mem))) none = some r := hres
        rw [bf_some] at hres'
        obtain ⟨_, hres'⟩ := hres'
        cases hres'
        have : touchE (.append s x y) fr env = [id] := by simp [touchE, hva]
        rw [this]
        exact .move
      | _ => cases hres
  | delete kk m k =>
    simp only [evE, ob_some, bf_some] at he
    obtain ⟨u, hu, k', _, k'', _, _, he⟩ := he
    rcases mapCases_some he with ⟨id, rfl, he⟩ | ⟨rfl, he⟩
    · obtain ⟨o, ho, he⟩ := ob_some.1 he
      have : touchE (.delete kk m k) fr env = [id] := by simp [touchE, hu]
      rw [this]
      rcases asMapO he with ⟨l, rfl, he⟩ | ⟨l, rfl, he⟩
      · obtain ⟨l', _, he⟩ := ob_some.1 he
        cases he
        exact .upd
      · obtain ⟨l', _, he⟩ := ob_some.1 he
        cases he
        exact .upd
    · cases he
structure CllOk (P : Program) (call : Cll) : Prop where
  ok : ∀ f vs M r M', call f vs M = some (r, M') → CallOk P f vs M r M'
  frm : ∀ f vs M r M', call f vs M = some (r, M') → ∀ t tch, (t = true → touchM M vs = some tch) → Frm t tch M M'
theorem run_call {dst : Option Tmp} {f : Operand} {args : Array Operand} {ts : Array TypeId} {ty : TypeId} {q1 : String} {q2 : Array Edge} {gd : Option (Nat × Bool)} {g : Nat} {xs ys : List Value} (hf : a.eval f = .func (.func g) ⟨xs⟩ ⟨ys⟩) (hk : Known P g) :
    (execOp a.eval ⟨dst, .call { callee := .value f, args := args, argTypes := ts }, ty, q1, q2, gd⟩).run P w = .ok (.enter g ⟨xs ++ (args.toList.map a.eval ++ ys)⟩) w := by
  obtain ⟨fn, h1, h2, h3⟩ := hk
  have e : (⟨xs ++ (args.toList.map a.eval ++ ys)⟩ : Array Value) = (⟨xs⟩ : Array Value) ++ args.map a.eval ++ ⟨ys⟩ := by apply Array.ext'; simp
  rw [e]
  have h3 : ¬ fn.body = none := fun h => by rw [h] at h3; cases h3
  simp [execOp, resolve, hf, Deferred.ofValue, invoke, callFunc, h1, h3]
  intro h
  rw [h] at h2
  cases h2
theorem reach_of {t : Bool} {x : Option (List Nat)} {tch : List Nat} (h : bf t x (some []) = some tch) (ht : t = true) : x = some tch := by subst ht; exact h
theorem asFn_some {v : AV} {t : Nat × List AV × List AV} (h : asFn v = some t) : v = .fn t.1 t.2.1 t.2.2 := by
  cases v <;> simp_all [asFn]
  obtain rfl := h
  exact ⟨rfl, rfl, rfl⟩
theorem R.fn {O : Bl} {n : Nat → Prop} {g : Nat} {b c : List AV} {x : Value} (h : R w O G n (.fn g b c) x) : ∃ xs ys, x = .func (.func g) ⟨xs⟩ ⟨ys⟩ ∧ RL w O G n b xs ∧ RL w O G n c ys := by
  obtain ⟨h, k⟩ := h
  cases h with
  | fn _ _ _ xs ys ha hb h1 h2 =>
    refine ⟨xs, ys, rfl, ⟨ha, fun i v x e1 e2 => ⟨h1 i v x e1 e2, fun r hr => k r ?_⟩⟩, ⟨hb, fun i v x e1 e2 => ⟨h2 i v x e1 e2, fun r hr => k r ?_⟩⟩⟩
    · simp [refsL_get e1 hr]
    · simp [refsL_get e1 hr]
/-- An operation, in the evaluator's words: K goes on. -/
theorem act_ok {L : Nat} {call : Cll} (hcall : CllOk P call) {base : Nat} {pend : Objs} {tch : List Nat} {nx : Nat} (hS : St objs B G w) (hF : Free nx B) (hc : Cx ρ fr env a w (Own objs G) G B) {o : Oper} {t : Bool} {K : RS → Out} {out : Ex × Fr × Mem}
    (he : evAct (acOf P L ρ o.op t none) call fr base ⟨env, pend, tch, ⟨nx, objs⟩⟩ K = some out) {next : Act → World → Prop} {Q : Exit → Act → World → Prop}
    (h1 : ∀ v x tch' nx' objs' B' G' w', K ⟨v :: env, pend, tch', ⟨nx', objs'⟩⟩ = some out → Post objs B G w objs' B' G' w' → Grow nx nx' B B' → R w' (Own objs' G') G' B' v x → Frm t tch' ⟨nx, objs⟩ ⟨nx', objs'⟩ → next (a.put o.dst x) w')
    (h2 : ∀ v x nx' objs' B' G' w', out = (.pan v, fr, ⟨nx', objs'⟩) → Post objs B G w objs' B' G' w' → Grow nx nx' B B' → R w' (Own objs' G') G' B' v x → (∀ id, id < nx → getO id objs = none → getO id objs' = none) → Q (.panic [{ v := x, recovered := false }]) a w') :
    o.wp P a w next Q := by
  unfold Oper.wp
  unfold acOf at he
  split at he
  · rename_i p hp
    obtain ⟨v, hv, he⟩ := ob_some.1 (show (ob (evP p fr env objs) fun v => K ⟨v :: env, pend, tch, ⟨nx, objs⟩⟩) = some out from he)
    obtain ⟨x, hrun, hr⟩ := pop_ok hS hc hp hv
    rw [hrun]
    exact h1 v x tch nx objs B G w he (.refl hS) .refl hr .refl
  split at he
  · rename_i p hp
    obtain ⟨r, hr, he⟩ := ob_some.1 (show (ob (evN p fr env nx) fun r => K ⟨r.1 :: env, pend, tch, Option.rec (motive := fun _ => Mem) ⟨nx, objs⟩ (fun o => (⟨nx, objs⟩ : Mem).new o) r.2⟩) = some out from he)
    obtain ⟨x, w', G', hrun, hP, hR⟩ := nop_ok hS hc hp (hF nx (Nat.le_refl _)) hr
    rw [hrun]
    obtain ⟨v, ro⟩ := r
    cases ro with
    | none => exact h1 v x tch nx objs B G' w' he hP .refl hR .refl
    | some o' => exact h1 v x tch (nx + 1) _ _ G' w' he hP (NextB.grow (.inr ⟨rfl, rfl⟩)) hR ((Frm.new (Nat.le_succ _)).weak fun _ _ h => absurd h (by simp))
  split at he
  · rename_i p hp
    obtain ⟨r, hr, he⟩ := ob_some.1 (show (ob (evE p fr env ⟨nx, objs⟩) fun r => K ⟨r.1 :: env, pend, bf t (touchE p fr env) [], r.2⟩) = some out from he)
    obtain ⟨B', hB, nxt, x, w', G', hrun, hn, hP, hR⟩ := eop_ok hS hc hp (hF nx (Nat.le_refl _)) hr
    rw [hrun]
    have := h1 r.1 x _ r.2.next r.2.objs B' G' w' he hP hB.grow hR ((evE_frm hr).weak fun ht id hid => by rw [ht]; exact hid)
    rcases hn with rfl | ⟨rfl, rfl⟩
    · exact this
    · exact this
  obtain ⟨dst, op, ty, q1, q2, gd⟩ := o
  simp only at he
  split at he
  · rename_i f args ts _ _ _
    split at he
    · rename_i of oargs hf hargs
      obtain ⟨vf, hvf, he⟩ := ob_some.1 (show (ob (opd of fr env) fun f => ob (asFn f) fun g => ob (opds oargs fr env) fun args => (fun as => ob (bf t (touchM ⟨nx, objs⟩ as) (some [])) fun tch => ob (call g.1 as ⟨nx, objs⟩) fun r =>
        Rs.casesOn (motive := fun _ => Mem → Out) r.1 (fun v M' => K ⟨v :: env, pend, tch, M'⟩) (fun v M' => some (.pan v, fr, M')) r.2) (app g.2.1 (app args g.2.2))) = some out from he)
      obtain ⟨g, hg, he⟩ := ob_some.1 he
      obtain ⟨vs, hvs, he⟩ := ob_some.1 he
      obtain ⟨tch', htch, he⟩ := ob_some.1 he
      obtain ⟨⟨r, M'⟩, hr, he⟩ := ob_some.1 he
      obtain ⟨g, gb, gc⟩ := g
      have hvf' := asFn_some hg
      subst hvf'
      obtain ⟨xs, ys, hx, hxs, hys⟩ := (hc.opd hf hvf).fn
      have hvs' := hc.opds hargs hvs
      have hall : RL w (Own objs G) G B (app gb (app vs gc)) (xs ++ (args.toList.map a.eval ++ ys)) := by
        rw [app_eq, app_eq]
        exact hxs.append (hvs'.append hys)
      obtain ⟨hk, hC⟩ := hcall.ok g _ _ r M' hr B G w _ hS hF hall
      have hfrm := hcall.frm g (app gb (app vs gc)) ⟨nx, objs⟩ r M' hr t tch' (reach_of htch)
      rw [run_call hx hk]
      refine hC.mono fun e w' => ?_
      rintro ⟨B', G', hP, hgr, hE⟩
      cases r with
      | ret v =>
        obtain ⟨x, rfl, hR⟩ := hE
        exact h1 v x _ _ _ B' G' w' he hP hgr hR hfrm
      | pan v =>
        obtain ⟨x, rfl, hR⟩ := hE
        exact h2 v x M'.next M'.objs B' G' w' (Option.some.inj he).symm hP hgr hR hfrm.none
    · cases he
  · rename_i x _ _ _
    split at he
    · rename_i ox hx
      obtain ⟨v, hv, he⟩ := ob_some.1 (show (ob (opd ox fr env) fun v => AV.casesOn (motive_1 := fun _ => Out) v (fun _ => none) none (fun _ => none) (fun _ _ _ _ => none) (fun _ _ _ => none) (fun _ _ _ => none) none (fun _ => none) none (fun _ _ _ => none) none (fun t v => some (.pan (.iface t v), fr, ⟨nx, objs⟩)) none (fun _ => none) (fun _ => none)) = some out from he)
      have hr := hc.opd hx hv
      cases v with
      | iface ty' v =>
        have he : some (Ex.pan (.iface ty' v), fr, (⟨nx, objs⟩ : Mem)) = some out := he
        have := h2 (.iface ty' v) (a.eval x) nx objs B G w (Option.some.inj he).symm (.refl hS) .refl hr fun _ _ h => h
        generalize hy : a.eval x = y at hr this
        obtain ⟨hr, _⟩ := hr
        cases hr
        simpa [execOp, Instr.panic, goPanic, hy, Oper.upon] using this
      | _ => cases he
    · cases he
  · cases he
end
end Go.Ab
namespace Go.Ab
set_option maxRecDepth 8000
set_option linter.unusedVariables false
set_option linter.unusedSimpArgs false
theorem slotO_some {t : Nat} : ∀ {slots : List Nat} {i : Nat}, slotO slots t = some i → slots[i]? = some t
  | [], i, h => by cases h
  | s :: l, i, h => by
    unfold slotO at h
    split at h
    · cases h; simpa using ‹s = t›
    · split at h <;> cases h
      rename_i d hd
      simpa using slotO_some hd
theorem wr_some {ops : List Oper} {t : Nat} : ∀ {ord : List Nat} {d : Nat}, wr ops ord t = some d → ∃ j, ord[d]? = some j ∧ dstOf ops j = some t
  | [], i, h => by cases h
  | j :: l, i, h => by
    unfold wr at h
    split at h
    · cases h; exact ⟨j, by simp, ‹_›⟩
    · split at h <;> cases h
      rename_i d hd
      simpa using wr_some hd
theorem wr_cons (ops : List Oper) (i : Nat) (ord : List Nat) (t : Nat) : wr ops (i :: ord) t = if dstOf ops i = some t then some 0 else (wr ops ord t).map (· + 1) := by
  rw [wr]
  split
  · rfl
  · cases wr ops ord t <;> rfl
theorem eval_put (a : Act) (d : Option Tmp) (x : Value) (t : Nat) (h : ∀ t, d = some t → t < a.tmps.size) : (a.put d x).eval (.tmp t) = if d = some t then x else a.eval (.tmp t) := by
  cases d with
  | none => rfl
  | some d =>
    have := h d rfl
    by_cases hd : d = t
    · subst hd; simp [Act.put, Act.eval, this]
    · simp [Act.put, Act.eval, hd, Array.getElem?_setIfInBounds]
theorem put_size (a : Act) (d : Option Tmp) (x : Value) : (a.put d x).tmps.size = a.tmps.size := by cases d <;> simp [Act.put]
theorem put_defers (a : Act) (d : Option Tmp) (x : Value) : (a.put d x).defers = a.defers := by cases d <;> simp [Act.put]
/-- The slots that are kept have the values that the model's have. -/
structure FrOk (slots : List Nat) (fr : List AV) (a : Act) (w : World) (O : Bl) (G : Gm) (n : Nat → Prop) : Prop where
  len : fr.length = slots.length
  val : ∀ (i t : Nat), slots[i]? = some t → ∃ v, fr[i]? = some v ∧ R w O G n v (a.eval (.tmp t))
def ExOk (e : Ex) (x : Exit) (rel : AV → Value → Prop) : Prop := match e with
  | .normal => x = .normal
  | .exit i => x = .exit i
  | .ret => x = .ret
  | .pan v => ∃ y, x = .panic [{ v := y, recovered := false }] ∧ rel v y
def isPan : Ex → Bool
  | .pan _ => true
  | _ => false
/-- How many slots there are, and which of them keep what they hold. -/
structure Tm where
  n : Nat
  kt : Nat → Bool
  ref : Array Value
def AtT (a : Act) (N : Tm) : Prop := a.tmps.size = N.n ∧ ∀ t, N.kt t = true → a.tmps[t]? = N.ref[t]?
theorem AtT.put {a : Act} {N : Tm} {d : Option Tmp} {x : Value} (h : AtT a N) (hd : ∀ t, d = some t → t < N.n ∧ N.kt t = false) : AtT (a.put d x) N := by
  refine ⟨by rw [put_size]; exact h.1, fun t ht => ?_⟩
  cases d with
  | none => exact h.2 t ht
  | some j =>
    have hj : j ≠ t := by rintro rfl; rw [(hd j rfl).2] at ht; cases ht
    rw [← h.2 t ht]
    simp [Act.put, hj]
def dstsT (N : Tm) : Code → Bool
  | .region _ ops _ => ops.toList.all fun o => match o.dst with | some d => decide (d < N.n) && !N.kt d | none => true
  | .seq a b | .cond _ a b => dstsT N a && dstsT N b
  | .block _ b | .loop b => dstsT N b
  | _ => true
theorem dstsT_ok {n : Nat} (ref : Array Value) : ∀ c : Code, dstsOk n c = true → dstsT ⟨n, fun _ => false, ref⟩ c = true
  | .region _ ops _, h => by
    have h : (ops.toList.all fun o => match o.dst with | some d => decide (d < n) | none => true) = true := h
    show (ops.toList.all fun o => match o.dst with | some d => decide (d < n) && !false | none => true) = true
    rw [List.all_eq_true] at h ⊢
    intro o ho
    have := h o ho
    cases hd : o.dst with
    | none => rfl
    | some d => rw [hd] at this; simpa using this
  | .seq a b, h => by
    obtain ⟨h1, h2⟩ := Bool.and_eq_true_iff.1 (show (dstsOk n a && dstsOk n b) = true from h)
    exact Bool.and_eq_true_iff.2 ⟨dstsT_ok ref a h1, dstsT_ok ref b h2⟩
  | .cond _ a b, h => by
    obtain ⟨h1, h2⟩ := Bool.and_eq_true_iff.1 (show (dstsOk n a && dstsOk n b) = true from h)
    exact Bool.and_eq_true_iff.2 ⟨dstsT_ok ref a h1, dstsT_ok ref b h2⟩
  | .block _ b, h => dstsT_ok ref b h
  | .loop b, h => dstsT_ok ref b h
  | .skip, _ => rfl
  | .rangeFunc .., _ => rfl
  | .exit _, _ => rfl
  | .scope _, _ => rfl
  | .label _, _ => rfl
  | .goto _, _ => rfl
  | .ret, _ => rfl
  | .refuse _, _ => rfl
/-- What is shown of code. -/
def QOk (slots : List Nat) (N : Tm) (ds : List Deferred) (M0 : Mem) (B0 : Nat → Prop) (G0 : Gm) (w0 : World) (out : Ex × Fr × Mem) : Exit → Act → World → Prop := fun e a w =>
  ∃ B' G', Post M0.objs B0 G0 w0 out.2.2.objs B' G' w ∧ Grow M0.next out.2.2.next B0 B' ∧ ExOk out.1 e (R w (Own out.2.2.objs G') G' B') ∧
    (isPan out.1 = false → FrOk slots out.2.1 a w (Own out.2.2.objs G') G' B') ∧ AtT a N ∧ a.defers = ds
section
variable {P : Program} {objs objs' : Objs} {B B' : Nat → Prop} {G G' : Gm} {w w' : World} {fr fr' : List AV} {env : List AV} {a : Act} {ops : List Oper} {slots ord : List Nat} {O O' : Bl} {n n' : Nat → Prop}
structure Rg (ops : List Oper) (slots ord : List Nat) (fr : List AV) (env : List AV) (a : Act) (w : World) (O : Bl) (G : Gm) (n : Nat → Prop) : Prop where
  cx : Cx (rho ops slots ord) fr env a w O G n
  old : ∀ (i t : Nat), slots[i]? = some t → wr ops ord t = none → ∃ v, fr[i]? = some v ∧ R w O G n v (a.eval (.tmp t))
  len : fr.length = slots.length
theorem Rg.start (h : FrOk slots fr a w O G n) : Rg ops slots [] fr [] a w O G n := by
  refine ⟨fun t o v ht hv => ?_, fun i t h1 _ => h.val i t h1, h.len⟩
  simp only [rho, wr] at ht
  split at ht <;> cases ht
  rename_i i hi
  obtain ⟨u, hu, hr⟩ := h.val i t (slotO_some hi)
  have hv : nth fr i = some v := hv
  rw [nth_eq, hu] at hv
  cases hv
  exact hr
theorem Rg.step (h : Rg ops slots ord fr env a w O G n) {i : Nat} {o : Oper} (ho : ops[i]? = some o) (hN : ∀ t, o.dst = some t → t < a.tmps.size) {v : AV} {x : Value} (hr : R w' O' G' n' v x) (hk : ∀ v x, R w O G n v x → R w' O' G' n' v x) :
    Rg ops slots (i :: ord) fr (v :: env) (a.put o.dst x) w' O' G' n' := by
  have hd : dstOf ops i = o.dst := by simp [dstOf, ho]
  refine ⟨fun t od u ht hu => ?_, fun j t h1 h2 => ?_, h.len⟩
  · rw [eval_put a o.dst x t hN]
    simp only [rho, wr_cons, hd] at ht
    by_cases hdt : o.dst = some t
    · simp only [hdt, if_true] at ht ⊢
      cases ht
      cases hu
      exact hr
    · simp only [hdt, if_false] at ht ⊢
      refine hk _ _ ?_
      cases hw : wr ops ord t with
      | some d =>
        rw [hw] at ht
        cases ht
        exact h.cx t (.res d) u (by simp [rho, hw]) hu
      | none =>
        rw [hw] at ht
        simp only [Option.map_none] at ht
        split at ht <;> cases ht
        rename_i k hk'
        exact h.cx t (.old k) u (by simp [rho, hw, hk']) hu
  · rw [wr_cons, hd] at h2
    rw [eval_put a o.dst x t hN]
    by_cases hdt : o.dst = some t
    · simp [hdt] at h2
    · simp only [hdt, if_false, Option.map_eq_none_iff] at h2 ⊢
      obtain ⟨u, hu, hr'⟩ := h.old j t h1 h2
      exact ⟨u, hu, hk _ _ hr'⟩
theorem setSlots_cons (env : List AV) (p : Nat × Nat) (l : List (Nat × Nat)) (fr : List AV) : setSlots env (p :: l) fr = ob (nth env p.2) fun v => setSlots env l (setN v fr p.1) := rfl
theorem setSlots_ok : ∀ (l : List Nat) (s : Nat) (fr fr' : List AV), setSlots env (wbC ops ord l s) fr = some fr' → fr'.length = fr.length ∧ (∀ i : Nat, i < s → fr'[i]? = fr[i]?) ∧
    ∀ (k t : Nat), l[k]? = some t → (wr ops ord t = none → fr'[s + k]? = fr[s + k]?) ∧ ∀ d, wr ops ord t = some d → s + k < fr.length → ∃ v, env[d]? = some v ∧ fr'[s + k]? = some v
  | [], s, fr, fr', h => by
    cases h
    exact ⟨rfl, fun _ _ => rfl, fun k t h => by simp at h⟩
  | t :: l, s, fr, fr', h => by
    unfold wbC at h
    split at h
    · rename_i d hd
      rw [setSlots_cons] at h
      obtain ⟨v, hv, h⟩ := ob_some.1 h
      rw [nth_eq] at hv
      obtain ⟨h1, h2, h3⟩ := setSlots_ok l (s + 1) _ _ h
      rw [setN_eq] at h1 h2 h3
      refine ⟨by simpa using h1, fun i hi => by rw [h2 i (by omega), List.getElem?_set_ne (by omega)], fun k u hu => ?_⟩
      cases k with
      | zero =>
        simp at hu
        subst hu
        refine ⟨fun h => (by rw [hd] at h; cases h), fun d' hd' hlt => ?_⟩
        rw [hd] at hd'
        cases hd'
        refine ⟨v, hv, ?_⟩
        rw [h2 _ (by omega)]
        simp at hlt
        simp [hlt]
      | succ k =>
        have := h3 k u (by simpa using hu)
        rw [show s + (k + 1) = s + 1 + k by omega]
        simp only [List.length_set] at this
        rw [List.getElem?_set_ne (by omega)] at this
        exact this
    · rename_i hd
      obtain ⟨h1, h2, h3⟩ := setSlots_ok l (s + 1) _ _ h
      refine ⟨h1, fun i hi => h2 i (by omega), fun k u hu => ?_⟩
      cases k with
      | zero =>
        simp at hu
        subst hu
        refine ⟨fun _ => h2 _ (by omega), fun d hd' _ => by rw [hd] at hd'; cases hd'⟩
      | succ k =>
        have := h3 k u (by simpa using hu)
        rw [show s + (k + 1) = s + 1 + k by omega]
        exact this
theorem Rg.finish (h : Rg ops slots ord fr env a w O G n) (hs : setSlots env (wbC ops ord slots 0) fr = some fr') : FrOk slots fr' a w O G n := by
  obtain ⟨h1, _, h3⟩ := setSlots_ok slots 0 fr fr' hs
  refine ⟨h1.trans h.len, fun i t hi => ?_⟩
  obtain ⟨k1, k2⟩ := h3 i t hi
  rw [Nat.zero_add] at k1 k2
  cases hw : wr ops ord t with
  | none =>
    rw [k1 hw]
    exact h.old i t hi hw
  | some d =>
    obtain ⟨v, hv, hf⟩ := k2 d hw (by rw [h.len]; exact (List.getElem?_eq_some_iff.1 hi).1)
    exact ⟨v, hf, h.cx t (.res d) v (by simp [rho, hw]) (by show nth env d = some v; rw [nth_eq]; exact hv)⟩
theorem guard_core {o : Oper} {j t : Nat} {want b : Bool} {v : AV} (h : o.guard = some (j, want)) (ht : dstOf ops j = some t) (hr : R w O G n v (a.eval (.tmp t)))
    (hb : Option.rec (motive := fun _ => Option Bool) (ob (asTup v) fun l => bf (Nat.beq (len l) 0) (some false) none) (fun b => some (eqBb b want)) (asB v) = some b) : Region.wanted o (yielded ops.toArray a.tmps) = b := by
  unfold Region.wanted
  rw [h]
  have hy : yielded ops.toArray a.tmps j = match a.eval (.tmp t) with | .bool b => some b | _ => none := by
    have hdst : (ops.toArray[j]?.bind (·.dst)) = some t := by
      unfold dstOf at ht
      split at ht
      · rename_i o' ho'
        simp [ho', ht]
      · cases ht
    simp only [yielded, hdst, Option.bind_some, Act.eval, Array.getD_eq_getD_getElem?]
    cases a.tmps[t]? with
    | none => rfl
    | some x => cases x <;> rfl
  simp only [hy]
  cases hB : asB v with
  | some c =>
    rw [hB] at hb
    cases hb
    rw [asB_some hB] at hr
    rw [hr.bool, eqBb_eq]
    rfl
  | none =>
    rw [hB] at hb
    obtain ⟨l, hl, hb⟩ := ob_some.1 hb
    rw [bf_some] at hb
    obtain ⟨h0, hb⟩ := hb
    cases hb
    have : v = .tup l := by cases v <;> simp_all [asTup]
    subst this
    generalize a.eval (.tmp t) = x at hr ⊢
    cases hr.1
    rfl
theorem guard_ok (hc : Cx (rho ops slots ord) fr env a w O G n) {o : Oper} {g : Option (Opd × Bool)} {b : Bool} (hg : guardC ops ord o.guard = some g) (hb : guardOk g fr env = some b) : Region.wanted o (yielded ops.toArray a.tmps) = b := by
  unfold guardC at hg
  split at hg
  · rename_i h
    cases hg
    cases hb
    unfold Region.wanted
    rw [h]
  · rename_i j want h
    split at hg <;> try (cases hg; done)
    rename_i t ht
    split at hg <;> try (cases hg; done)
    rename_i d hd
    cases hg
    obtain ⟨v, hv, hb⟩ := ob_some.1 (show (ob (opd (.res d) fr env) fun v => Option.rec (motive := fun _ => Option Bool) (ob (asTup v) fun l => bf (Nat.beq (len l) 0) (some false) none) (fun b => some (eqBb b want)) (asB v)) = some b from hb)
    exact guard_core h ht (hc t (.res d) v (by simp [rho, hd]) hv) hb
theorem evIts_cons (it : It) (l : List It) (call : Cll) (base : Nat) (s : RS) (K : RS → Out) :
    evIts (it :: l) call fr base s K = ob (guardOk it.guard fr s.env) fun g => bf g (evAct it.act call fr base s (fun s => evIts l call fr base s K)) (evIts l call fr base ⟨undefA :: s.env, s.pend, s.tch, s.M⟩ K) := rfl
theorem reg_go {L : Nat} {call : Cll} (hcall : CllOk P call) {base : Nat} {N : Tm} {ds : List Deferred} {M0 : Mem} {B0 : Nat → Prop} {G0 : Gm} {w0 : World} {out : Ex × Fr × Mem} (hN : ∀ o ∈ ops, ∀ t, o.dst = some t → t < N.n ∧ N.kt t = false) :
    ∀ (m i : Nat) (env : List AV) (tch : List Nat) (nx : Nat) (objs : Objs) (B : Nat → Prop) (G : Gm) (w : World) (a : Act), i + m = ops.length →
      evIts (regC P L ops slots m i (downFrom i)) call fr base ⟨env, [], tch, ⟨nx, objs⟩⟩ (finish (wbC ops (downFrom ops.length) slots 0) fr) = some out →
      Rg ops slots (downFrom i) fr env a w (Own objs G) G B → Post M0.objs B0 G0 w0 objs B G w → Free nx B → Grow M0.next nx B0 B → AtT a N → a.defers = ds →
      wpList P ops.toArray (QOk slots N ds M0 B0 G0 w0 out) (ops.drop i) a w
  | 0, i, env, tch, nx, objs, B, G, w, a, him, he, hR, hP, hF, hle, hsz, hds => by
    have hi : i = ops.length := by omega
    subst hi
    rw [List.drop_length]
    obtain ⟨fr', hfr, he⟩ := ob_some.1 (show (ob (setSlots env (wbC ops (downFrom ops.length) slots 0) fr) fun fr' => some (Ex.normal, fr', (⟨nx, objs⟩ : Mem))) = some out from he)
    cases he
    exact ⟨B, G, hP, hle, rfl, fun _ => hR.finish hfr, hsz, hds⟩
  | m + 1, i, env, tch, nx, objs, B, G, w, a, him, he, hR, hP, hF, hle, hsz, hds => by
    have hi : i < ops.length := by omega
    have ho : ops[i]? = some ops[i] := List.getElem?_eq_getElem hi
    have hNo : ∀ t, (ops[i]).dst = some t → t < a.tmps.size := fun t ht => by rw [hsz.1]; exact (hN _ (List.getElem_mem hi) t ht).1
    rw [List.drop_eq_getElem_cons hi]
    have hreg : regC P L ops slots (m + 1) i (downFrom i) = itemC P L ops slots (downFrom i) i false none :: regC P L ops slots m (i + 1) (downFrom (i + 1)) := rfl
    rw [hreg, evIts_cons] at he
    obtain ⟨b, hb, he⟩ := ob_some.1 he
    have hitem : itemC P L ops slots (downFrom i) i false none = match guardC ops (downFrom i) (ops[i]).guard with | some g => ⟨acOf P L (rho ops slots (downFrom i)) (ops[i]).op false none, g⟩ | none => badIt := by unfold itemC; rw [ho]; rfl
    cases hgc : guardC ops (downFrom i) (ops[i]).guard with
    | none =>
      rw [hitem, hgc] at hb he
      cases hb
      cases he
    | some g =>
      rw [hitem, hgc] at hb he
      have hw := guard_ok hR.cx hgc hb
      unfold wpList
      cases b with
      | false =>
        rw [if_neg (by rw [hw]; simp)]
        have hrs := hR.step ho hNo (v := undefA) (x := undef) R.undef (fun v x h => h)
        exact reg_go hcall hN m (i + 1) _ tch nx objs B G w _ (by omega) he hrs hP hF hle (hsz.put (hN _ (List.getElem_mem hi))) (by rw [put_defers]; exact hds)
      | true =>
        rw [if_pos hw]
        refine .inl (act_ok (L := L) (t := false) hcall hP.st hF hR.cx he ?_ ?_)
        · intro v x tch' nx' objs' B' G' w' hK hP' hg' hr _
          exact reg_go hcall hN m (i + 1) _ tch' nx' objs' B' G' w' _ (by omega) hK (hR.step ho hNo hr (fun v x h => hP'.r h)) (hP.trans hP') (hg'.free hF) (hle.trans hg') (hsz.put (hN _ (List.getElem_mem hi))) (by rw [put_defers]; exact hds)
        · intro v x nx' objs' B' G' w' hout hP' hg' hr _
          subst hout
          exact ⟨B', G', hP.trans hP', hle.trans hg', ⟨x, rfl, hr⟩, fun h => (by cases h), hsz, hds⟩
/-- A region in the order of the text. -/
theorem reg_ok {L : Nat} {call : Cll} (hcall : CllOk P call) {N : Tm} {M : Mem} {out : Ex × Fr × Mem} {id : Nat} {aops : Array Oper} (hN : ∀ o ∈ aops.toList, ∀ t, o.dst = some t → t < N.n ∧ N.kt t = false)
    (he : evReg (regC P L aops.toList slots aops.toList.length 0 []) (wbC aops.toList (downFrom aops.toList.length) slots 0) call fr M = some out)
    (hS : St M.objs B G w) (hF : Free M.next B) (hfr : FrOk slots fr a w (Own M.objs G) G B) (hsz : AtT a N) :
    (Code.region id aops false).wp P (QOk slots N a.defers M B G w out) a w := by
  refine wp_region_list ?_
  have := reg_go (fr := fr) (base := 0) (ds := a.defers) (M0 := M) (B0 := B) (G0 := G) (w0 := w) hcall hN aops.toList.length 0 [] [] M.next M.objs B G w a (by omega) he (Rg.start hfr) (.refl hS) hF .refl hsz rfl
  simpa using this
end
end Go.Ab
namespace Go.Ab
set_option maxRecDepth 8000
set_option linter.unusedVariables false
set_option linter.unusedSimpArgs false
section
variable {P : Program} {objs objs' objs1 : Objs} {B B' B1 : Nat → Prop} {G G' G1 : Gm} {w w' w1 : World}
def Sub (objs objs' : Objs) : Prop := ∀ id o, getO id objs = some o → getO id objs' = some o
theorem Sub.alive (h : Sub objs objs') {id : Nat} {o : Ob} (k : Alive objs id o) : Alive objs' id o := ⟨h id o k.1, k.2⟩
/-- The same objects, those of a part as one's own, the others' blocks as blocks of others. -/
def partG (objs objs' : Objs) (G : Gm) : Gm := ⟨G.f, fun b => Own objs' G b ∧ ¬ Mut objs G b⟩
theorem part_own (h : Sub objs objs') : Own objs (partG objs objs' G) = Own objs' G := by
  funext b
  apply propext
  constructor
  · rintro (h1 | ⟨id, o, h1, h2⟩)
    · exact h1.1
    · exact .inr ⟨id, o, h.alive h1, h2⟩
  · intro k
    by_cases hm : Mut objs G b
    · exact .inr hm
    · exact .inl ⟨k, hm⟩
theorem AVRel.gm {O : Bl} {v : AV} {x : Value} (h : AVRel w O G v x) (hG : G'.f = G.f) : AVRel w O G' v x :=
  h.mono (.refl _ _) (fun _ _ h => h) fun r _ => by show G'.f r = G.f r; rw [hG]
theorem R.gm {O : Bl} {n : Nat → Prop} {v : AV} {x : Value} (h : R w O G n v x) (hG : G'.f = G.f) : R w O G' n v x := ⟨h.1.gm hG, h.2⟩
theorem ORel.gm {O : Bl} {l : Loc} {o : Ob} (h : ORel w O G l o) (hG : G'.f = G.f) : ORel w O G' l o := h.keep rfl (fun v x _ h => h.gm hG) (fun _ _ h => h)
theorem St.split (hS : St objs' B G w) (h : Sub objs objs') : St objs B (partG objs objs' G) w where
  lt id o k := hS.lt id o (h.alive k)
  inj id o id' o' k k' e := hS.inj id o id' o' (h.alive k) (h.alive k') e
  rel id o k := by
    rw [part_own h]
    exact (hS.rel id o (h.alive k)).gm rfl
  refs id o k := hS.refs id o (h.alive k)
  apart id o k hx := hx.2 ⟨id, o, k, rfl⟩
  ltX b hx := Own.lt hS hx.1
  wf id o k := hS.wf id o (h id o k)
/-- The whole, behind a step over a part of it. -/
noncomputable def joinO (objs objs' objs1 : Objs) : Objs := objs1 ++ objs'.filter (fun p => (getO p.1 objs).isNone)
theorem getO_append (id : Nat) (x y : Objs) : getO id (x ++ y) = (getO id x).or (getO id y) := by
  induction x with
  | nil => simp
  | cons p x ih =>
    obtain ⟨i, o⟩ := p
    rw [List.cons_append, getO_cons, getO_cons, ih]
    split <;> simp
theorem getO_filter (id : Nat) (f : Nat → Bool) (x : Objs) : getO id (x.filter fun p => f p.1) = if f id then getO id x else none := by
  induction x with
  | nil => simp
  | cons p x ih =>
    obtain ⟨i, o⟩ := p
    rw [List.filter_cons]
    cases hf : f i with
    | true =>
      simp only [if_true, getO_cons, ih]
      by_cases hi : id = i
      · subst hi; simp [hf]
      · simp [hi]
    | false =>
      simp only [Bool.false_eq_true, if_false, getO_cons, ih]
      by_cases hi : id = i
      · subst hi; simp [hf]
      · simp [hi]
theorem getO_join (id : Nat) : getO id (joinO objs objs' objs1) = (getO id objs1).or (if (getO id objs).isNone then getO id objs' else none) := by
  rw [joinO, getO_append, getO_filter id (fun i => (getO i objs).isNone)]
theorem Post.join (hS : St objs' B G w) (h : Sub objs objs') (hP : Post objs B (partG objs objs' G) w objs1 B1 G1 w1) (hd : ∀ id, B id → getO id objs = none → getO id objs1 = none) :
    Post objs' B G w (joinO objs objs' objs1) B1 ⟨G1.f, G.X⟩ w1 ∧ Own (joinO objs objs' objs1) ⟨G1.f, G.X⟩ = Own objs1 G1 := by
  have hsame : ∀ b, G1.X b ↔ Own objs' G b ∧ ¬ Mut objs G b := fun b => by rw [hP.same]; exact Iff.rfl
  have hagree : ∀ id, B id → G1.f id = G.f id := fun id hb => hP.agree id hb
  have hcase : ∀ id o, Alive (joinO objs objs' objs1) id o → Alive objs1 id o ∨ (Alive objs' id o ∧ getO id objs = none) := by
    intro id o ⟨h1, h2⟩
    rw [getO_join] at h1
    cases h3 : getO id objs1 with
    | some o' => rw [h3] at h1; simp at h1; subst h1; exact .inl ⟨h3, h2⟩
    | none =>
      rw [h3] at h1
      cases hn : getO id objs with
      | some o' => rw [hn] at h1; simp at h1
      | none => rw [hn] at h1; exact .inr ⟨⟨by simpa using h1, h2⟩, rfl⟩
  have hrest : ∀ id o, Alive objs' id o → getO id objs = none → Alive (joinO objs objs' objs1) id o := by
    intro id o h1 h2
    refine ⟨?_, h1.2⟩
    rw [getO_join, hd id (hS.lt id o h1).1 h2, h2, h1.1]
    rfl
  have hone : ∀ id o, Alive objs1 id o → Alive (joinO objs objs' objs1) id o := by
    intro id o h1
    refine ⟨?_, h1.2⟩
    rw [getO_join, h1.1]
    rfl
  have hX : ∀ id o, Alive objs' id o → getO id objs = none → G1.X (G id).b := fun id o h1 h2 => (hsame _).2 ⟨.inr ⟨id, o, h1, rfl⟩, by
    rintro ⟨id', o', k1, k2⟩
    have := hS.inj id' o' id o (h.alive k1) h1 k2
    subst this
    rw [k1.1] at h2
    cases h2⟩
  have hown : Own (joinO objs objs' objs1) ⟨G1.f, G.X⟩ = Own objs1 G1 := by
    funext b
    apply propext
    constructor
    · rintro (k | ⟨id, o, k1, k2⟩)
      · exact .inl ((hsame b).2 ⟨.inl k, by
          rintro ⟨id, o, k1, rfl⟩
          exact hS.apart id o (h.alive k1) k⟩)
      · rcases hcase id o k1 with k | ⟨k, k'⟩
        · exact .inr ⟨id, o, k, k2⟩
        · refine .inl ?_
          have := hX id o k k'
          rw [← k2]
          show G1.X (G1.f id).b
          rw [hagree id (hS.lt id o k).1]
          exact this
    · rintro (k | ⟨id, o, k1, k2⟩)
      · obtain ⟨k1, k2⟩ := (hsame b).1 k
        rcases k1 with k1 | ⟨id, o, k1, k3⟩
        · exact .inl k1
        · refine .inr ⟨id, o, hrest id o k1 ?_, ?_⟩
          · cases hn : getO id objs with
            | none => rfl
            | some o' =>
              have := h id o' hn
              rw [k1.1] at this
              cases this
              exact absurd ⟨id, o, ⟨hn, k1.2⟩, k3⟩ k2
          · rw [← k3]
            show (G1.f id).b = (G.f id).b
            rw [hagree id (hS.lt id o k1).1]
      · exact .inr ⟨id, o, hone id o k1, k2⟩
  have hE : Ev (Own objs' G) w w1 := hP.ev.mono fun b k => by
    obtain ⟨id, o, k1, k2⟩ := k
    exact .inr ⟨id, o, h.alive k1, k2⟩
  have hback : ∀ b, b < w.heap.size → Own (joinO objs objs' objs1) ⟨G1.f, G.X⟩ b → Own objs' G b := fun b hb k => by
    rw [hown] at k
    have := hP.own b hb k
    rwa [part_own h] at this
  refine ⟨{ st := ?_, ev := hP.ev.mono ?_, same := rfl, next := hP.next, agree := hP.agree, own := hback }, hown⟩
  · refine { lt := ?_, inj := ?_, rel := ?_, refs := ?_, apart := ?_, ltX := fun b hb => Nat.lt_of_lt_of_le (hS.ltX b hb) hP.ev.size, wf := ?_ }
    · intro id o k
      rcases hcase id o k with k | ⟨k, k'⟩
      · exact hP.st.lt id o k
      · have := hS.lt id o k
        refine ⟨hP.next _ this.1, ?_⟩
        show (G1.f id).b < _
        rw [hagree id this.1]
        exact Nat.lt_of_lt_of_le this.2 hP.ev.size
    · intro id o id' o' k k' he
      rcases hcase id o k with k | ⟨k, k2⟩ <;> rcases hcase id' o' k' with k' | ⟨k', k2'⟩
      · exact hP.st.inj id o id' o' k k' he
      · have hx := hX id' o' k' k2'
        have he : (G1.f id).b = (G1.f id').b := he
        rw [hagree id' (hS.lt _ _ k').1] at he
        rw [← he] at hx
        exact absurd hx (hP.st.apart id o k)
      · have hx := hX id o k k2
        have he : (G1.f id).b = (G1.f id').b := he
        rw [hagree id (hS.lt _ _ k).1] at he
        rw [he] at hx
        exact absurd hx (hP.st.apart id' o' k')
      · have he : (G1.f id).b = (G1.f id').b := he
        rw [hagree id (hS.lt _ _ k).1, hagree id' (hS.lt _ _ k').1] at he
        exact hS.inj id o id' o' k k' he
    · intro id o k
      rw [hown]
      rcases hcase id o k with k | ⟨k, k2⟩
      · exact (hP.st.rel id o k).gm rfl
      · show ORel w1 _ _ (G1.f id) o
        rw [hagree id (hS.lt _ _ k).1, ← hown]
        refine (hS.rel id o k).keep (hP.ev.keep _ (hS.lt _ _ k).2 ?_) (fun v x hr hv => hv.mono hE hback fun r hr' => hagree r (hS.refs id o k r (hr r hr'))) (fun p x hp => hp.mono hE hback)
        exact fun hm => ((hsame _).1 (hX id o k k2)).2 hm
    · intro id o k r hr
      rcases hcase id o k with k | ⟨k, k2⟩
      · exact hP.st.refs id o k r hr
      · exact hP.next r (hS.refs id o k r hr)
    · intro id o k hx
      rcases hcase id o k with k | ⟨k, k2⟩
      · refine hP.st.apart id o k ((hsame _).2 ⟨.inl hx, ?_⟩)
        rintro ⟨id', o', k1, k2⟩
        have hx : G.X (G1.f id).b := hx
        rw [show (G1 id).b = (G1.f id).b from rfl] at k2
        rw [← k2] at hx
        exact hS.apart id' o' (h.alive k1) hx
      · have hx : G.X (G1.f id).b := hx
        rw [hagree id (hS.lt _ _ k).1] at hx
        exact hS.apart id o k hx
    · intro id o k
      rw [getO_join] at k
      cases h1 : getO id objs1 with
      | some o' => exact hP.st.wf id o' h1
      | none =>
        rw [h1] at k
        split at k
        · exact hP.next id (hS.wf id o (by simpa using k))
        · simp at k
  · rintro b ⟨id, o, k1, k2⟩
    exact ⟨id, o, h.alive k1, k2⟩
end
end Go.Ab
namespace Go.Ab
set_option maxRecDepth 8000
set_option linter.unusedVariables false
set_option linter.unusedSimpArgs false
section
variable {P : Program} {objs objs' : Objs} {B B' : Nat → Prop} {G G' : Gm} {w w' : World} {fr env : List AV} {a : Act} {ops : List Oper} {slots ord : List Nat} {O : Bl} {n : Nat → Prop} {ρ : Rho}
/-! ### The result of an operation -/
def lookE (ord : List Nat) (env : List AV) (k : Nat) : Option AV := match idxN k ord with
  | some d => env[d]?
  | none => none
theorem idxN_cons (k j : Nat) (ord : List Nat) : idxN k (j :: ord) = if j = k then some 0 else (idxN k ord).map (· + 1) := by
  rw [idxN]
  split
  · rfl
  · cases idxN k ord <;> rfl
theorem lookE_cons (k j : Nat) (v : AV) : lookE (j :: ord) (v :: env) k = if j = k then some v else lookE ord env k := by
  unfold lookE
  rw [idxN_cons]
  by_cases h : j = k
  · simp [h]
  · simp only [h, if_false]
    cases idxN k ord <;> simp
theorem idxN_some {k : Nat} : ∀ {ord : List Nat} {d : Nat}, idxN k ord = some d → ord[d]? = some k
  | [], d, h => by cases h
  | j :: l, d, h => by
    rw [idxN_cons] at h
    split at h
    · cases h; simpa using ‹j = k›
    · simp only [Option.map_eq_some_iff] at h
      obtain ⟨e, he, rfl⟩ := h
      simpa using idxN_some he
theorem idxN_mem {k : Nat} {ord : List Nat} (h : k ∈ ord) : ∃ d, idxN k ord = some d := by
  induction ord with
  | nil => cases h
  | cons j l ih =>
    rw [idxN_cons]
    by_cases hj : j = k
    · exact ⟨0, by simp [hj]⟩
    · obtain ⟨d, hd⟩ := ih (by simpa [Ne.symm hj] using h)
      exact ⟨d + 1, by simp [hj, hd]⟩
theorem lookE_mem {k : Nat} {v : AV} (h : lookE ord env k = some v) : k ∈ ord := by
  unfold lookE at h
  split at h
  · exact List.mem_of_getElem? (idxN_some ‹_›)
  · cases h
/-- What has come in between. -/
def Ext (ord : List Nat) (env : List AV) (ord' : List Nat) (env' : List AV) : Prop := ∀ k v, lookE ord env k = some v → lookE ord' env' k = some v
theorem Ext.refl : Ext ord env ord env := fun _ _ h => h
theorem Ext.cons {j : Nat} {v : AV} (h : j ∉ ord) : Ext ord env (j :: ord) (v :: env) := fun k u hk => by
  rw [lookE_cons, if_neg]
  · exact hk
  · rintro rfl
    exact h (lookE_mem hk)
theorem Ext.trans {ord' ord'' : List Nat} {env' env'' : List AV} (h : Ext ord env ord' env') (k : Ext ord' env' ord'' env'') : Ext ord env ord'' env'' := fun i v hi => k i v (h i v hi)
/-! ### What stands before an operation -/
theorem ancs_len : ∀ (l : List Oper) (acc : List (List Nat)), (ancs l acc).length = acc.length + l.length
  | [], acc => rfl
  | o :: l, acc => by rw [ancs, ancs_len]; simp; omega
theorem ancs_old : ∀ (l : List Oper) (acc : List (List Nat)) (k : Nat), k < acc.length → (ancs l acc)[k]? = acc[k]?
  | [], acc, k, h => rfl
  | o :: l, acc, k, h => by rw [ancs, ancs_old _ _ _ (by simp; omega), List.getElem?_append_left h]
theorem ancs_new : ∀ (l : List Oper) (acc : List (List Nat)) (k : Nat) (o : Oper), l[k]? = some o → ∀ i ∈ ancAt (ancs l acc) (acc.length + k), ∃ e ∈ o.after.toList, Region.binds .any e = true ∧ (i = e.on ∨ i ∈ ancAt (ancs l acc) e.on)
  | [], acc, k, o, h, i, hi => by simp at h
  | p :: l, acc, 0, o, h, i, hi => by
    simp at h
    subst h
    rw [ancs] at hi ⊢
    unfold ancAt at hi
    rw [List.getD_eq_getElem?_getD, Nat.add_zero, ancs_old _ _ _ (by simp)] at hi
    simp only [List.getElem?_append_right (Nat.le_refl _), Nat.sub_self, List.getElem?_cons_zero, Option.getD_some, List.mem_flatMap, List.mem_filter, List.mem_cons] at hi
    obtain ⟨e, ⟨he, hb⟩, hi⟩ := hi
    refine ⟨e, he, hb, hi.imp id fun hi => ?_⟩
    have hlt : e.on < acc.length := by
      by_cases h : e.on < acc.length
      · exact h
      · rw [List.getD_eq_getElem?_getD, List.getElem?_eq_none (by omega)] at hi
        cases hi
    unfold ancAt
    rw [List.getD_eq_getElem?_getD, ancs_old _ _ _ (by simp; omega), List.getElem?_append_left hlt, ← List.getD_eq_getElem?_getD]
    exact hi
  | p :: l, acc, k + 1, o, h, i, hi => by
    rw [ancs] at hi ⊢
    have := ancs_new l (acc ++ [(p.after.toList.filter (fun e => Region.binds .any e)).flatMap fun e => e.on :: acc.getD e.on []]) k o (by simpa using h) i
    rw [List.length_append, List.length_cons, List.length_nil, show acc.length + (0 + 1) + k = acc.length + (k + 1) by omega] at this
    exact this hi
theorem anc_step {i : Nat} {o : Oper} (ho : ops[i]? = some o) {k : Nat} (hk : k ∈ ancAt (ancs ops []) i) : ∃ e ∈ o.after.toList, Region.binds .any e = true ∧ (k = e.on ∨ k ∈ ancAt (ancs ops []) e.on) := by
  have := ancs_new ops [] i o ho k
  simp only [List.length_nil, Nat.zero_add] at this
  exact this hk
/-! ### Operations that lookE at the memory -/
theorem loadA_mono {m : Option Nat} {u v : AV} (h : loadA objs m u = some v) (hs : ∀ id o, idOf u = some id → Alive objs id o → getO id objs' = some o) : loadA objs' m u = some v := by
  cases u with
  | ptr id i off =>
    obtain ⟨o, ho, h⟩ := ob_some.1 (show (ob (getO id objs) fun o => ob (elemO o i) fun c => mkVal m (dropN c off)) = some v from h)
    show (ob (getO id objs') fun o => ob (elemO o i) fun c => mkVal m (dropN c off)) = some v
    rw [hs id o rfl ⟨ho, by rintro rfl; cases h⟩]
    exact h
  | fptr es i off => exact h
  | _ => cases h
theorem elemsOf_mono {u : AV} {o : Ob} (h : elemsOf objs u = some o) (hs : ∀ id o, idOf u = some id → Alive objs id o → getO id objs' = some o) : elemsOf objs' u = some o := by
  cases u with
  | row id s i len =>
    obtain ⟨o', ho, h⟩ := ob_some.1 (show (ob (getO id objs) fun o => subO o i len) = some o from h)
    show (ob (getO id objs') fun o => subO o i len) = some o
    rw [hs id o' rfl ⟨ho, by rintro rfl; cases h⟩]
    exact h
  | p q => exact h
  | nils => exact h
  | lit es => exact h
  | _ => cases h
theorem asMap_alive {α : Type} {o : Ob} {f : List (PV × PV) → Option α} {g : List (PV × AV) → Option α} {r : α} (h : asMap o f g = some r) : o ≠ .dead := by rintro rfl; cases h
theorem evP_mono {op : Op} {p : POp} {v : AV} (hp : pOp P ρ op = some p) (he : evP p fr env objs = some v)
    (hs : ∀ x y u id o, readOf P op = some x → opdC ρ x = some y → opd y fr env = some u → idOf u = some id → Alive objs id o → getO id objs' = some o) : evP p fr env objs' = some v := by
  unfold pOp at hp
  split at hp
  case h_4 t x =>
    split at hp <;> try (cases hp; done)
    obtain ⟨o, ho, rfl⟩ := with1_some hp
    rename_i n hn
    obtain ⟨u, hu, he⟩ := ob_some.1 (show (ob (opd o fr env) fun v => loadA objs n v) = some v from he)
    show (ob (opd o fr env) fun v => loadA objs' n v) = some v
    rw [hu]
    exact loadA_mono he fun id o' h1 h2 => hs x o u id o' rfl ho hu h1 h2
  case h_14 t m k ok =>
    split at hp <;> try (cases hp; done)
    split at hp <;> try (cases hp; done)
    rename_i kk z _ _
    obtain ⟨o, o', ho, ho', rfl⟩ := with2_some hp
    simp only [evP, ob_some, bf_some] at he ⊢
    obtain ⟨um, hum, uk, huk, k', hk', hkk, he⟩ := he
    refine ⟨um, hum, uk, huk, k', hk', hkk, ?_⟩
    rcases mapCases_some he with ⟨id, rfl, he⟩ | ⟨rfl, he⟩
    · obtain ⟨o1, h1, he⟩ := ob_some.1 he
      show (ob (getO id objs') _) = _
      rw [hs m o (.map id) id o1 rfl ho hum rfl ⟨h1, asMap_alive he⟩]
      exact he
    · exact he
  case h_20 =>
    rename_i b args ts
    split at hp <;> try (cases hp; done)
    · rename_i x hargs
      split at hp <;> try (cases hp; done)
      · obtain ⟨o, ho, rfl⟩ := with1_some hp
        exact he
      · obtain ⟨o, ho, rfl⟩ := with1_some hp
        exact he
      · obtain ⟨o, ho, rfl⟩ := with1_some hp
        simp only [evP, ob_some] at he ⊢
        obtain ⟨u, hu, n, hn, he⟩ := he
        refine ⟨u, hu, n, ?_, he⟩
        have hn' : mapCases u (fun id => ob (getO id objs) fun o => asMap o (fun l => some (len l)) (fun l => some (len l))) (some 0) = some n := hn
        show mapCases u (fun id => ob (getO id objs') fun o => asMap o (fun l => some (len l)) (fun l => some (len l))) (some 0) = some n
        rcases mapCases_some hn' with ⟨id, rfl, hn'⟩ | ⟨rfl, hn'⟩
        · obtain ⟨o1, h1, hn'⟩ := ob_some.1 hn'
          have hx : args[0]? = some x := by
            have : args.toList[0]? = some x := by rw [hargs]; rfl
            simpa using this
          show (ob (getO id objs') _) = _
          rw [hs x o (.map id) id o1 hx ho hu rfl ⟨h1, asMap_alive hn'⟩]
          exact hn'
        · exact hn'
    · obtain ⟨o, o', h1, h2, rfl⟩ := with2_some hp
      exact he
    · obtain ⟨o, o', h1, h2, rfl⟩ := with2_some hp
      exact he
  case h_16 s d x =>
    split at hp <;> try (cases hp; done)
    · obtain ⟨o, ho, rfl⟩ := with1_some hp
      exact he
    · rename_i e hs1 hs2
      split at hp <;> try (cases hp; done)
      obtain ⟨o, ho, rfl⟩ := with1_some hp
      simp only [evP, ob_some] at he ⊢
      obtain ⟨u, hu, n, hn, ob', hob, he⟩ := he
      refine ⟨u, hu, n, hn, ob', elemsOf_mono hob fun id o' h1 h2 => hs x o u id o' ?_ ho hu h1 h2, he⟩
      simp [readOf, hs1]
  all_goals repeat' (split at hp)
  all_goals first
    | (cases hp; done)
    | (obtain ⟨_, _, rfl⟩ := with1_some hp; exact he)
    | (obtain ⟨_, _, _, _, rfl⟩ := with2_some hp; exact he)
    | (obtain ⟨_, _, _, _, _, _, rfl⟩ := with3_some hp; exact he)
    | (cases hp; exact he)
    | skip
end
end Go.Ab
namespace Go.Ab
set_option maxRecDepth 8000
set_option linter.unusedVariables false
set_option linter.unusedSimpArgs false
/-! ### Equality, looked at -/
mutual
theorem PV.beq_eq : ∀ {a b : PV}, PV.beq a b = true → a = b
  | .bool a, b, h => by cases b <;> simp_all [PV.beq]
  | .int k a, b, h => by cases b <;> simp_all [PV.beq]
  | .str a, b, h => by cases b <;> simp_all [PV.beq]
  | .fz a, b, h => by
    cases b <;> try (simp [PV.beq] at h; done)
    simp only [PV.beq] at h
    rw [beqLL_eq h]
  | .agg a, b, h => by
    cases b <;> try (simp [PV.beq] at h; done)
    simp only [PV.beq] at h
    rw [beqL_eq h]
theorem beqL_eq : ∀ {a b : List PV}, beqL a b = true → a = b
  | [], b, h => by cases b <;> simp_all [beqL]
  | x :: a, b, h => by
    cases b with
    | nil => simp [beqL] at h
    | cons y b =>
      simp only [beqL, Bool.and_eq_true] at h
      rw [PV.beq_eq h.1, beqL_eq h.2]
theorem beqLL_eq : ∀ {a b : List (List PV)}, beqLL a b = true → a = b
  | [], b, h => by cases b <;> simp_all [beqLL]
  | x :: a, b, h => by
    cases b with
    | nil => simp [beqLL] at h
    | cons y b =>
      simp only [beqLL, Bool.and_eq_true] at h
      rw [beqL_eq h.1, beqLL_eq h.2]
end
mutual
theorem AV.beq_eq : ∀ {a b : AV}, AV.beq a b = true → a = b
  | .p a, b, h => by
    cases b <;> try (simp [AV.beq] at h; done)
    simp only [AV.beq] at h
    rw [PV.beq_eq h]
  | .nils, b, h => by cases b <;> simp_all [AV.beq]
  | .nilp, b, h => by cases b <;> simp_all [AV.beq]
  | .nilm, b, h => by cases b <;> simp_all [AV.beq]
  | .nilf, b, h => by cases b <;> simp_all [AV.beq]
  | .nili, b, h => by cases b <;> simp_all [AV.beq]
  | .lit a, b, h => by
    cases b <;> try (simp [AV.beq] at h; done)
    simp only [AV.beq] at h
    rw [beqLL_eq h]
  | .row .., b, h => by cases b <;> simp_all [AV.beq]
  | .ptr .., b, h => by cases b <;> simp_all [AV.beq]
  | .fptr a i o, b, h => by
    cases b <;> try (simp [AV.beq] at h; done)
    simp only [AV.beq, Bool.and_eq_true, beq_iff_eq] at h
    rw [beqLL_eq h.1.1, h.1.2, h.2]
  | .map .., b, h => by cases b <;> simp_all [AV.beq]
  | .fn f a c, b, h => by
    cases b <;> try (simp [AV.beq] at h; done)
    simp only [AV.beq, Bool.and_eq_true, beq_iff_eq] at h
    rw [h.1.1, beqA_eq h.1.2, beqA_eq h.2]
  | .iface t v, b, h => by
    cases b <;> try (simp [AV.beq] at h; done)
    simp only [AV.beq, Bool.and_eq_true, beq_iff_eq] at h
    rw [h.1, AV.beq_eq h.2]
  | .agg a, b, h => by
    cases b <;> try (simp [AV.beq] at h; done)
    simp only [AV.beq] at h
    rw [beqA_eq h]
  | .tup a, b, h => by
    cases b <;> try (simp [AV.beq] at h; done)
    simp only [AV.beq] at h
    rw [beqA_eq h]
theorem beqA_eq : ∀ {a b : List AV}, beqA a b = true → a = b
  | [], b, h => by cases b <;> simp_all [beqA]
  | x :: a, b, h => by
    cases b with
    | nil => simp [beqA] at h
    | cons y b =>
      simp only [beqA, Bool.and_eq_true] at h
      rw [AV.beq_eq h.1, beqA_eq h.2]
end
theorem beqLs_eq {α : Type} {f : α → α → Bool} (hf : ∀ {a b}, f a b = true → a = b) : ∀ {a b : List α}, beqLs f a b = true → a = b
  | [], b, h => by cases b <;> simp_all [beqLs]
  | x :: a, b, h => by
    cases b with
    | nil => simp [beqLs] at h
    | cons y b =>
      simp only [beqLs, Bool.and_eq_true] at h
      rw [hf h.1, beqLs_eq hf h.2]
theorem Ob.beq_eq {a b : Ob} (h : Ob.beq a b = true) : a = b := by
  cases a <;> cases b <;> first | rfl | (simp [Ob.beq] at h; done) | skip
  · simp only [Ob.beq] at h
    rw [beqLL_eq h]
  · simp only [Ob.beq] at h
    rw [beqLs_eq beqA_eq h]
  · simp only [Ob.beq] at h
    rw [beqLs_eq (fun {p q} h => by
      simp only [Bool.and_eq_true] at h
      exact Prod.ext (PV.beq_eq h.1) (PV.beq_eq h.2)) h]
  · simp only [Ob.beq] at h
    rw [beqLs_eq (fun {p q} h => by
      simp only [Bool.and_eq_true] at h
      exact Prod.ext (PV.beq_eq h.1) (AV.beq_eq h.2)) h]
theorem Ex.beq_eq {a b : Ex} (h : Ex.beq a b = true) : a = b := by
  cases a <;> cases b <;> first | rfl | (simp [Ex.beq] at h; done) | skip
  · simp [Ex.beq] at h; rw [h]
  · simp only [Ex.beq] at h
    rw [AV.beq_eq h]
theorem beqR_eq {r s : Ex × Fr × Mem} (h : beqR r s = true) : r = s := by
  obtain ⟨a, b, c, d⟩ := r
  obtain ⟨a', b', c', d'⟩ := s
  simp only [beqR, Bool.and_eq_true, beq_iff_eq] at h
  obtain ⟨⟨⟨h1, h2⟩, h3⟩, h4⟩ := h
  rw [Ex.beq_eq h1, beqA_eq h2, h3, beqLs_eq (fun {p q} h => by
    simp only [Bool.and_eq_true, beq_iff_eq] at h
    exact Prod.ext h.1 (Ob.beq_eq h.2)) h4]
/-! ### The tree -/
theorem evIts_append (x y : List It) (call : Cll) (fr : Fr) (base : Nat) (K : RS → Out) : ∀ s, evIts (x ++ y) call fr base s K = evIts x call fr base s (fun s => evIts y call fr base s K) := by
  induction x with
  | nil => intro s; rfl
  | cons it x ih =>
    intro s
    rw [List.cons_append, evIts_cons, evIts_cons]
    simp only [ih]
noncomputable def evDTs (l : List DT) (call : Cll) (fr : Fr) (base : Nat) (s : RS) : Out :=
  List.rec (motive := fun _ => Out) none (fun hd tl ih => List.casesOn (motive := fun _ => Out) tl (evDT hd call fr base s) (fun _ _ => ob (evDT hd call fr base s) fun r => ob ih fun r' => bf (beqR r r') (some r) none)) l
theorem evDT_rec : ∀ (l : List DT) (call : Cll) (fr : Fr) (base : Nat) (s : RS), DT.rec_1 (motive_1 := fun _ => Cll → Fr → Nat → RS → Out) (motive_2 := fun _ => Cll → Fr → Nat → RS → Out)
    (fun its wb kids ih call fr base s => evIts its call fr base s (List.casesOn (motive := fun _ => RS → Out) kids (finish wb fr) (fun _ _ => ih call fr base)))
    (fun _ _ _ _ => none)
    (fun _ l hd tl call fr base s => List.casesOn (motive := fun _ => Out) l (hd call fr base s) (fun _ _ => ob (hd call fr base s) fun r => ob (tl call fr base s) fun r' => bf (beqR r r') (some r) none)) l call fr base s = evDTs l call fr base s
  | [], _, _, _, _ => rfl
  | hd :: [], _, _, _, _ => rfl
  | hd :: b :: l, call, fr, base, s => by
    exact congrArg (fun x => ob (evDT hd call fr base s) fun r => ob x fun r' => bf (beqR r r') (some r) none) (evDT_rec (b :: l) call fr base s)
theorem evDT_leaf (its : List It) (wb : List (Nat × Nat)) (call : Cll) (fr : Fr) (base : Nat) (s : RS) : evDT (.node its wb []) call fr base s = evIts its call fr base s (finish wb fr) := rfl
theorem evDT_node (its : List It) (wb : List (Nat × Nat)) (k : DT) (l : List DT) (call : Cll) (fr : Fr) (base : Nat) (s : RS) : evDT (.node its wb (k :: l)) call fr base s = evIts its call fr base s (evDTs (k :: l) call fr base) := by
  have : evDTs (k :: l) call fr base = DT.rec_1 (motive_1 := fun _ => Cll → Fr → Nat → RS → Out) (motive_2 := fun _ => Cll → Fr → Nat → RS → Out)
    (fun its wb kids ih call fr base s => evIts its call fr base s (List.casesOn (motive := fun _ => RS → Out) kids (finish wb fr) (fun _ _ => ih call fr base)))
    (fun _ _ _ _ => none)
    (fun _ l hd tl call fr base s => List.casesOn (motive := fun _ => Out) l (hd call fr base s) (fun _ _ => ob (hd call fr base s) fun r => ob (tl call fr base s) fun r' => bf (beqR r r') (some r) none)) (k :: l) call fr base := funext fun s => (evDT_rec (k :: l) call fr base s).symm
  rw [this]
  rfl
theorem evDTs_all {call : Cll} {fr : Fr} {base : Nat} {s : RS} {out : Ex × Fr × Mem} : ∀ {l : List DT}, evDTs l call fr base s = some out → ∀ k ∈ l, evDT k call fr base s = some out
  | [], h, k, hk => by cases hk
  | hd :: [], h, k, hk => by
    simp at hk
    subst hk
    exact h
  | hd :: b :: l, h, k, hk => by
    obtain ⟨r, hr, h⟩ := ob_some.1 (show (ob (evDT hd call fr base s) fun r => ob (evDTs (b :: l) call fr base s) fun r' => bf (beqR r r') (some r) none) = some out from h)
    obtain ⟨r', hr', h⟩ := ob_some.1 h
    rw [bf_some] at h
    obtain ⟨he, h⟩ := h
    cases h
    have he := beqR_eq he
    subst he
    rcases List.mem_cons.1 hk with rfl | hk
    · exact hr
    · exact evDTs_all hr' k hk
/-! ### Numbers -/
section
variable {P : Program} {ops : List Oper}
theorem numN_succ (i : Nat) : numN P ops (i + 1) = numN P ops i + if newAt P ops i = true then 1 else 0 := by
  unfold numN
  rw [List.range_succ, List.filter_append]
  by_cases h : newAt P ops i = true <;> simp [h]
theorem numN_mono {i k : Nat} (h : i ≤ k) : numN P ops i ≤ numN P ops k := by
  induction h with
  | refl => exact Nat.le_refl _
  | step _ ih => rw [numN_succ]; omega
theorem numN_lt {i k : Nat} (h : i < k) (hn : newAt P ops i = true) : numN P ops i < numN P ops k := by
  have := numN_mono (P := P) (ops := ops) (show i + 1 ≤ k from h)
  rw [numN_succ, if_pos hn] at this
  omega
theorem numN_inj {i k : Nat} (hi : newAt P ops i = true) (hk : newAt P ops k = true) (h : numN P ops i = numN P ops k) : i = k := by
  rcases Nat.lt_trichotomy i k with h' | h' | h'
  · have := numN_lt h' hi; omega
  · exact h'
  · have := numN_lt h' hk; omega
theorem newAt_lt {i : Nat} (h : newAt P ops i = true) : i < ops.length := by
  unfold newAt at h
  split at h
  · rename_i o ho; exact (List.getElem?_eq_some_iff.1 ho).1
  · cases h
theorem memN_eq (i : Nat) (l : List Nat) : memN i l = true ↔ i ∈ l := by
  induction l with
  | nil => simp [memN]
  | cons j l ih =>
    have : memN i (j :: l) = bf (Nat.beq i j) true (memN i l) := rfl
    rw [this]
    by_cases h : i = j
    · subst h; simp [Nat.beq_refl]
    · have hb : Nat.beq i j = false := by
        cases hb : Nat.beq i j with
        | false => rfl
        | true => exact absurd (Nat.eq_of_beq_eq_true hb) h
      rw [hb, bf_false, ih]
      simp [h]
theorem pickQ_get (qs : List Nat) (id : Nat) : ∀ l : Objs, getO id (pickQ qs l).1 = (if id ∈ qs then getO id l else none) ∧ getO id (pickQ qs l).2 = (if id ∈ qs then none else getO id l)
  | [] => by simp [pickQ]
  | (j, o) :: l => by
    have ih := pickQ_get qs id l
    have e : pickQ qs ((j, o) :: l) = bf (memN j qs) ((j, o) :: (pickQ qs l).1, (pickQ qs l).2) ((pickQ qs l).1, (j, o) :: (pickQ qs l).2) := rfl
    rw [e]
    cases hm : memN j qs with
    | true =>
      have hj := (memN_eq j qs).1 hm
      simp only [bf_true, getO_cons, ih]
      by_cases hi : id = j
      · subst hi; simp [hj]
      · simp [hi]
    | false =>
      have hj : ¬ j ∈ qs := fun h => by rw [(memN_eq j qs).2 h] at hm; cases hm
      simp only [bf_false, getO_cons, ih]
      by_cases hi : id = j
      · subst hi; simp [hj]
      · simp [hi]
/-! ### Who writes a slot -/
theorem wrOne_some {t : Nat} : ∀ {n k : Nat}, wrOne ops t n = some k → k < n ∧ dstOf ops k = some t
  | 0, k, h => by cases h
  | n + 1, k, h => by
    unfold wrOne at h
    split at h
    · cases h; exact ⟨Nat.lt_succ_self _, ‹_›⟩
    · have := wrOne_some h; exact ⟨by omega, this.2⟩
theorem wrOne_none {t : Nat} : ∀ {n : Nat}, wrOne ops t n = none → ∀ k, k < n → dstOf ops k ≠ some t
  | 0, h, k, hk => by omega
  | n + 1, h, k, hk => by
    unfold wrOne at h
    split at h
    · cases h
    · by_cases hk' : k = n
      · subst hk'; assumption
      · exact wrOne_none h k (by omega)
theorem wr_idx {t : Nat} : ∀ {ord : List Nat} {d : Nat}, wr ops ord t = some d → ∃ j, idxN j ord = some d ∧ dstOf ops j = some t
  | [], d, h => by cases h
  | i :: l, d, h => by
    rw [wr_cons] at h
    split at h
    · cases h; exact ⟨i, by rw [idxN_cons, if_pos rfl], ‹_›⟩
    · simp only [Option.map_eq_some_iff] at h
      obtain ⟨e, he, rfl⟩ := h
      obtain ⟨j, h1, h2⟩ := wr_idx he
      refine ⟨j, ?_, h2⟩
      rw [idxN_cons, if_neg, h1]
      · rfl
      · rintro rfl; contradiction
theorem wr_none {t : Nat} : ∀ {ord : List Nat}, wr ops ord t = none → ∀ j ∈ ord, dstOf ops j ≠ some t
  | [], h, j, hj => by cases hj
  | i :: l, h, j, hj => by
    rw [wr_cons] at h
    split at h
    · cases h
    · rcases List.mem_cons.1 hj with rfl | hj
      · assumption
      · exact wr_none (by simpa using h) j hj
/-- What 'drawOk' says. -/
theorem drawOk_some (h : drawOk ops = true) {i : Nat} {o : Oper} (ho : ops[i]? = some o) : (∀ e ∈ o.after.toList, Region.binds .any e = true → e.on < i) ∧ ∀ j t, j < ops.length → o.dst = some t → dstOf ops j = some t → i = j := by
  unfold drawOk at h
  rw [List.all_eq_true] at h
  have := h i (List.mem_range.2 (List.getElem?_eq_some_iff.1 ho).1)
  rw [ho] at this
  simp only [Bool.and_eq_true, List.all_eq_true, List.mem_range, Bool.or_eq_true, beq_iff_eq, bne_iff_ne, decide_eq_true_eq, Bool.not_eq_true'] at this
  refine ⟨fun e he hb => ?_, fun j t hj h1 h2 => ?_⟩
  · rcases this.1.2 e he with h | h
    · rw [hb] at h; cases h
    · exact h
  · rcases this.2 j hj with (h | h) | h
    · exact h
    · rw [h1] at h; cases h
    · rw [h1, h2] at h; exact absurd rfl h
end
/-! ### Part of a state -/
section
variable {objs objs' objs0 : Objs} {B B' B0 : Nat → Prop} {G G' G0 : Gm} {w w' w0 : World}
theorem Sub.own (h : Sub objs objs') {b : Nat} (k : Own objs G b) : Own objs' G b := by
  rcases k with k | ⟨id, o, h1, h2⟩
  · exact .inl k
  · exact .inr ⟨id, o, h.alive h1, h2⟩
theorem AVRel.drop (h : Sub objs objs') {v : AV} {x : Value} (k : AVRel w (Own objs' G) G v x) : AVRel w (Own objs G) G v x := k.mono (.refl _ _) (fun _ _ k => h.own k) fun _ _ => rfl
theorem PRel.drop (h : Sub objs objs') {v : PV} {x : Value} (k : PRel w (Own objs' G) v x) : PRel w (Own objs G) v x := k.mono (.refl _ _) (fun _ _ k => h.own k)
theorem R.drop {n : Nat → Prop} (h : Sub objs objs') {v : AV} {x : Value} (k : R w (Own objs' G) G n v x) : R w (Own objs G) G n v x := ⟨k.1.drop h, k.2⟩
theorem St.drop (hS : St objs' B G w) (h : Sub objs objs') : St objs B G w where
  lt id o k := hS.lt id o (h.alive k)
  inj id o id' o' k k' e := hS.inj id o id' o' (h.alive k) (h.alive k') e
  rel id o k := (hS.rel id o (h.alive k)).keep rfl (fun v x _ k => k.drop h) fun p x k => k.drop h
  refs id o k := hS.refs id o (h.alive k)
  apart id o k := hS.apart id o (h.alive k)
  ltX := hS.ltX
  wf id o k := hS.wf id o (h id o k)
theorem Post.drop (hP : Post objs0 B0 G0 w0 objs' B G w) (h : Sub objs objs') : Post objs0 B0 G0 w0 objs B G w :=
  ⟨hP.st.drop h, hP.ev, hP.same, hP.next, hP.agree, fun b hb k => hP.own b hb (h.own k)⟩
end
end Go.Ab
