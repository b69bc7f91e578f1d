/- Regions that draw their order: what holds between the operations. Regions that draw their order: steps. Regions that draw their order: effects. Regions that draw their order, whole. Code. -/
import Derived.Test.YtmhjnndhphidfaaGreatA5
namespace Go.Ab
set_option maxRecDepth 8000
set_option linter.unusedVariables false
set_option linter.unusedSimpArgs false
section
variable (P : Program) (L : Nat) (ops : List Oper) (slots : List Nat) (fr : List AV) (N : Tm) (ds : List Deferred) (M0 : Mem) (B0 : Nat → Prop) (G0 : Gm) (w0 : World)
/-- An operation that the evaluator has done and the model has not. -/
def Pd (base : Nat) (ord : List Nat) (env : List AV) (pend objs : Objs) (j : Nat) : Prop :=
  effAt ops j = false ∧ ∃ o v, ops[j]? = some o ∧ lookE ord env j = some v ∧ ∃ ordj envj g b, Ext ordj envj ord env ∧ guardD ops (ancs ops []) ordj j o.guard = some g ∧ guardOk g fr envj = some b ∧
    (b = false → v = undefA ∧ (newAt P ops j = true → getO (base + numN P ops j) pend = none)) ∧ (b = true → (∃ p, pOp P (rhoD ops slots (ancs ops []) ordj j) o.op = some p ∧ evP p fr envj objs = some v) ∨
      ∃ p, nOp P L (rhoD ops slots (ancs ops []) ordj j) o.op = some p ∧ newAt P ops j = true ∧ evN p fr envj (base + numN P ops j) = some (v, getO (base + numN P ops j) pend))
structure NPre (E ord : List Nat) (s : RS) (D : Nat → Prop) (a : Act) (w : World) (objs : Objs) (B : Nat → Prop) (G : Gm) : Prop where
  post : Post M0.objs B0 G0 w0 objs B G w
  sub : Sub s.M.objs objs
  back : ∀ id o, getO id objs = some o → getO id s.M.objs = some o ∨ (getO id s.M.objs = none ∧ getO id s.pend = some o)
  pnd : ∀ j o, D j → newAt P ops j = true → getO (M0.next + numN P ops j) s.pend = some o → getO (M0.next + numN P ops j) objs = some o
  dis : ∀ id o, getO id s.pend = some o → getO id s.M.objs = none ∧ ∃ j, j ∈ ord ∧ newAt P ops j = true ∧ id = M0.next + numN P ops j
  nums : ∀ id, B id → B0 id ∨ (M0.next + numN P ops ops.length ≤ id ∧ id < s.M.next) ∨ ∃ j, D j ∧ newAt P ops j = true ∧ id = M0.next + numN P ops j
  nx : M0.next + numN P ops ops.length ≤ s.M.next
  vals : ∀ j t, D j → dstOf ops j = some t → ∃ v, lookE ord s.env j = some v ∧ R w (Own objs G) G B v (a.eval (.tmp t))
  olds : ∀ (i t : Nat), slots[i]? = some t → (∀ j, D j → dstOf ops j ≠ some t) → ∃ v, fr[i]? = some v ∧ R w (Own objs G) G B v (a.eval (.tmp t))
  pds : ∀ j, j ∈ ord → ¬ D j → Pd P L ops slots fr M0.next ord s.env s.pend s.M.objs j
  mem : ∀ j, D j → j ∈ ord
  eff : ∀ j, effAt ops j = true → (j ∈ E ↔ D j)
  eD : ∀ j ∈ E, D j
  cl : ∀ j, D j → ∀ k ∈ ancAt (ancs ops []) j, D k
  lt : ∀ j, j ∈ ord → j < ops.length
  sz : AtT a N
  dfs : a.defers = ds
  elen : s.env.length = ord.length
end
section
variable {P : Program} {L : Nat} {ops : List Oper} {slots : List Nat} {fr : List AV} {N : Tm} {ds : List Deferred} {M0 : Mem} {B0 : Nat → Prop} {G0 : Gm} {w0 : World}
variable {E ord : List Nat} {s : RS} {D : Nat → Prop} {a : Act} {w : World} {objs : Objs} {B : Nat → Prop} {G : Gm}
theorem NPre.free (h : NPre P L ops slots fr N ds M0 B0 G0 w0 E ord s D a w objs B G) (hF0 : Free M0.next B0) : Free s.M.next B := by
  intro id hid hb
  have hnx := h.nx
  rcases h.nums id hb with h1 | h1 | ⟨j, h1, h2, h3⟩
  · exact hF0 id (by omega) h1
  · omega
  · have := numN_lt (newAt_lt h2) h2
    omega
theorem NPre.fresh (h : NPre P L ops slots fr N ds M0 B0 G0 w0 E ord s D a w objs B G) (hF0 : Free M0.next B0) {j : Nat} (hn : newAt P ops j = true) (hj : ¬ D j) : ¬ B (M0.next + numN P ops j) := by
  intro hb
  have := numN_lt (newAt_lt hn) hn
  rcases h.nums _ hb with h1 | h1 | ⟨k, h1, h2, h3⟩
  · exact hF0 _ (by omega) h1
  · omega
  · have := numN_inj hn h2 (by omega)
    subst this
    exact hj h1
theorem NPre.grow (h : NPre P L ops slots fr N ds M0 B0 G0 w0 E ord s D a w objs B G) : Grow M0.next s.M.next B0 B := by
  have hnx := h.nx
  refine ⟨by omega, fun id hb => ?_⟩
  rcases h.nums id hb with h1 | h1 | ⟨j, h1, h2, h3⟩
  · exact .inl h1
  · exact .inr ⟨by omega, h1.2⟩
  · have := numN_lt (newAt_lt h2) h2
    exact .inr ⟨by omega, by omega⟩
theorem NPre.uniq (hD : drawOk ops = true) {i j t : Nat} (hi : dstOf ops i = some t) (hj : dstOf ops j = some t) : i = j := by
  have hlt : ∀ {k : Nat}, dstOf ops k = some t → ∃ o, ops[k]? = some o ∧ o.dst = some t := by
    intro k hk
    unfold dstOf at hk
    split at hk
    · exact ⟨_, ‹_›, hk⟩
    · cases hk
  obtain ⟨o, ho, hd⟩ := hlt hi
  obtain ⟨o', ho', _⟩ := hlt hj
  exact (drawOk_some hD ho).2 j t (List.getElem?_eq_some_iff.1 ho').1 hd hj
theorem NPre.cx (h : NPre P L ops slots fr N ds M0 B0 G0 w0 E ord s D a w objs B G) (hD : drawOk ops = true) {j : Nat} (hj : ¬ D j) (hanc : ∀ k ∈ ancAt (ancs ops []) j, D k) {ordj : List Nat} {envj : List AV} (hx : Ext ordj envj ord s.env) :
    Cx (rhoD ops slots (ancs ops []) ordj j) fr envj a w (Own objs G) G B := by
  intro t od v ht hv
  have old : (∀ k, D k → dstOf ops k ≠ some t) → oldO slots t = some od → R w (Own objs G) G B v (a.eval (.tmp t)) := by
    intro hk ho
    unfold oldO at ho
    split at ho <;> cases ho
    rename_i i hi
    obtain ⟨u, hu, hr⟩ := h.olds i t (slotO_some hi) hk
    have hv : nth fr i = some v := hv
    rw [nth_eq, hu] at hv
    cases hv
    exact hr
  unfold rhoD at ht
  split at ht
  · rename_i k hk
    obtain ⟨hk1, hk2⟩ := wrOne_some hk
    split at ht
    · rename_i hc
      split at ht <;> cases ht
      rename_i d hd
      have hDk := hanc k (by simpa using hc)
      have hv : nth envj d = some v := hv
      rw [nth_eq] at hv
      have hl := hx k v (by unfold lookE; rw [hd]; exact hv)
      obtain ⟨u, hu, hr⟩ := h.vals k t hDk hk2
      rw [hl] at hu
      cases hu
      exact hr
    · split at ht
      · rename_i hc
        refine old (fun k' hk' hd => ?_) ht
        have := NPre.uniq hD hd hk2
        subst this
        exact hj (h.cl _ hk' j (by simpa using hc))
      · cases ht
  · rename_i hk
    exact old (fun k hk' => wrOne_none hk k (h.lt k (h.mem k hk'))) ht
theorem NPre.wanted (h : NPre P L ops slots fr N ds M0 B0 G0 w0 E ord s D a w objs B G) {j : Nat} (hanc : ∀ k ∈ ancAt (ancs ops []) j, D k) {ordj : List Nat} {envj : List AV} (hx : Ext ordj envj ord s.env) {o : Oper} {g : Option (Opd × Bool)} {b : Bool}
    (hg : guardD ops (ancs ops []) ordj j o.guard = some g) (hb : guardOk g fr envj = some b) : Region.wanted o (yielded ops.toArray a.tmps) = b := by
  unfold guardD at hg
  split at hg
  · rename_i h
    cases hg
    cases hb
    unfold Region.wanted
    rw [h]
  · rename_i k want hgd
    split at hg <;> try (cases hg; done)
    rename_i hc
    simp only [Bool.and_eq_true, Option.isSome_iff_exists] at hc
    obtain ⟨hc, t, ht⟩ := hc
    split at hg <;> try (cases hg; done)
    rename_i d hd
    cases hg
    obtain ⟨v, hv, hb⟩ := ob_some.1 (show (ob (opd (.res d) fr envj) fun v => Option.rec (motive := fun _ => Option Bool) (ob (asTup v) fun l => bf (Nat.beq (len l) 0) (some false) none) (fun b => some (eqBb b want)) (asB v)) = some b from hb)
    have hv : nth envj d = some v := hv
    rw [nth_eq] at hv
    have hl := hx k v (by unfold lookE; rw [hd]; exact hv)
    obtain ⟨u, hu, hr⟩ := h.vals k t (hanc k (by simpa using hc)) ht
    rw [hl] at hu
    cases hu
    exact guard_core hgd ht hr hb
/-- An operation is done: the slots. -/
theorem NPre.put (h : NPre P L ops slots fr N ds M0 B0 G0 w0 E ord s D a w objs B G) (hD : drawOk ops = true) (hN : ∀ o ∈ ops, ∀ t, o.dst = some t → t < N.n ∧ N.kt t = false) {j : Nat} (hj : ¬ D j) {o : Oper} (ho : ops[j]? = some o) {ord' : List Nat} {env' : List AV} (hx : Ext ord s.env ord' env')
    {v : AV} {x : Value} (hv : lookE ord' env' j = some v) {w' : World} {objs' : Objs} {B' : Nat → Prop} {G' : Gm} (hk : ∀ v x, R w (Own objs G) G B v x → R w' (Own objs' G') G' B' v x) (hr : R w' (Own objs' G') G' B' v x) :
    (∀ k t, (D k ∨ k = j) → dstOf ops k = some t → ∃ v, lookE ord' env' k = some v ∧ R w' (Own objs' G') G' B' v ((a.put o.dst x).eval (.tmp t))) ∧
    (∀ (i t : Nat), slots[i]? = some t → (∀ k, (D k ∨ k = j) → dstOf ops k ≠ some t) → ∃ v, fr[i]? = some v ∧ R w' (Own objs' G') G' B' v ((a.put o.dst x).eval (.tmp t))) := by
  have hd : dstOf ops j = o.dst := by simp [dstOf, ho]
  have hsz : ∀ t, o.dst = some t → t < a.tmps.size := fun t ht => by rw [h.sz.1]; exact (hN o (List.mem_of_getElem? ho) t ht).1
  refine ⟨fun k t hk' ht => ?_, fun i t hi hall => ?_⟩
  · rw [eval_put a o.dst x t hsz]
    by_cases hkj : k = j
    · subst hkj
      rw [hd] at ht
      rw [if_pos ht]
      exact ⟨v, hv, hr⟩
    · have hDk := hk'.resolve_right hkj
      have hne : o.dst ≠ some t := fun hdt => by
        rw [← hd] at hdt
        exact hkj (NPre.uniq hD ht hdt)
      rw [if_neg hne]
      obtain ⟨u, hu, hr'⟩ := h.vals k t hDk ht
      exact ⟨u, hx k u hu, hk _ _ hr'⟩
  · rw [eval_put a o.dst x t hsz, if_neg (by rw [← hd]; exact hall j (.inr rfl))]
    obtain ⟨u, hu, hr'⟩ := h.olds i t hi fun k hDk => hall k (.inl hDk)
    exact ⟨u, hu, hk _ _ hr'⟩
theorem Pd.mono {base : Nat} {ord' : List Nat} {env env' : List AV} {pend pend' objsM objsM' : Objs} {j : Nat} (h : Pd P L ops slots fr base ord env pend objsM j) (hx : Ext ord env ord' env')
    (hp : newAt P ops j = true → getO (base + numN P ops j) pend' = getO (base + numN P ops j) pend) (ho : ∀ id o, Alive objsM id o → getO id objsM' = some o) : Pd P L ops slots fr base ord' env' pend' objsM' j := by
  obtain ⟨h1, o, v, h2, h3, ordj, envj, g, b, h4, h5, h6, h7, h8⟩ := h
  refine ⟨h1, o, v, h2, hx j v h3, ordj, envj, g, b, h4.trans hx, h5, h6, fun hb => ⟨(h7 hb).1, fun hn => by rw [hp hn]; exact (h7 hb).2 hn⟩, fun hb => ?_⟩
  rcases h8 hb with ⟨p, k1, k2⟩ | ⟨p, k1, k2, k3⟩
  · exact .inl ⟨p, k1, evP_mono k1 k2 fun _ _ _ id o _ _ _ _ hal => ho id o hal⟩
  · exact .inr ⟨p, k1, k2, by rw [hp k2]; exact k3⟩
/-! ### Operations that need no effect -/
theorem eOp_eff {ρ : Rho} {op : Op} {e : EOp} (h : eOp P ρ op = some e) : isEffO op = true := by
  unfold eOp at h
  split at h <;> try rfl
  · split at h <;> try (cases h; done)
    · rfl
    · rfl
    · rfl
  · cases h
theorem nOp_new {ρ : Rho} {op : Op} {e : NOp} (h : nOp P L ρ op = some e) : isNewO P op = true := by
  unfold nOp at h
  split at h <;> try rfl
  · split at h <;> try (cases h; done)
    rename_i hs _
    simp [isNewO, hs]
  · cases h
theorem pOp_new {ρ : Rho} {op : Op} {e : POp} (h : pOp P ρ op = some e) : isNewO P op = false := by
  unfold pOp at h
  split at h <;> try rfl
  · split at h <;> try (cases h; done)
    · rename_i hs _
      simp [isNewO, hs]
    · rename_i hs _
      simp [isNewO, hs]
  · cases h
theorem acO_free {ρ : Rho} {op : Op} {call : Cll} {base q : Nat} {K : RS → Out} {out : Ex × Fr × Mem} (hne : isEffO op = false) (he : evAct (acOf P L ρ op false (some q)) call fr base s K = some out) :
    (∃ p v, pOp P ρ op = some p ∧ evP p fr s.env s.M.objs = some v ∧ K ⟨v :: s.env, s.pend, s.tch, s.M⟩ = some out) ∨
    ∃ p v r, nOp P L ρ op = some p ∧ isNewO P op = true ∧ evN p fr s.env (base + q) = some (v, r) ∧ K ⟨v :: s.env, addO (base + q) r s.pend, s.tch, s.M⟩ = some out := by
  unfold acOf at he
  split at he
  · rename_i p hp
    obtain ⟨v, hv, he⟩ := ob_some.1 (show (ob (evP p fr s.env s.M.objs) fun v => K ⟨v :: s.env, s.pend, s.tch, s.M⟩) = some out from he)
    exact .inl ⟨p, v, hp, hv, he⟩
  split at he
  · rename_i p hp
    obtain ⟨⟨v, r⟩, hr, he⟩ := ob_some.1 (show (ob (evN p fr s.env (base + q)) fun r => K ⟨r.1 :: s.env, Option.rec (motive := fun _ => Objs) s.pend (fun o => (base + q, o) :: s.pend) r.2, s.tch, s.M⟩) = some out from he)
    refine .inr ⟨p, v, r, hp, nOp_new hp, hr, ?_⟩
    cases r <;> exact he
  split at he
  · rename_i p hp
    rw [eOp_eff hp] at hne
    cases hne
  split at he
  · cases hne
  · cases hne
  · cases he
end
end Go.Ab
namespace Go.Ab
set_option maxRecDepth 8000
set_option linter.unusedVariables false
set_option linter.unusedSimpArgs false
section
variable {P : Program} {L : Nat} {ops : List Oper} {slots : List Nat} {fr : List AV} {N : Tm} {ds : List Deferred} {M0 : Mem} {B0 : Nat → Prop} {G0 : Gm} {w0 : World}
variable {E ord : List Nat} {s : RS} {D : Nat → Prop} {a : Act} {w : World} {objs : Objs} {B : Nat → Prop} {G : Gm} {call : Cll} {K : RS → Out} {out : Ex × Fr × Mem}
theorem NPre.gone (h : NPre P L ops slots fr N ds M0 B0 G0 w0 E ord s D a w objs B G) (hF0 : Free M0.next B0) {j : Nat} (hn : newAt P ops j = true) (hj : ¬ D j) : getO (M0.next + numN P ops j) s.M.objs = none := by
  cases hg : getO (M0.next + numN P ops j) s.M.objs with
  | none => rfl
  | some o => exact absurd (h.post.st.wf _ _ (h.sub _ _ hg)) (h.fresh hF0 hn hj)
/-- The evaluator does one more. -/
theorem NPre.more (h : NPre P L ops slots fr N ds M0 B0 G0 w0 E ord s D a w objs B G) (hF0 : Free M0.next B0) {j : Nat} {v : AV} {pend' : Objs} {tch' : List Nat} (hj : j ∉ ord) (hjl : j < ops.length) (hne : effAt ops j = false)
    (hp : ∀ id, (newAt P ops j = true → id ≠ M0.next + numN P ops j) → getO id pend' = getO id s.pend) (hpd : Pd P L ops slots fr M0.next (j :: ord) (v :: s.env) pend' s.M.objs j) :
    NPre P L ops slots fr N ds M0 B0 G0 w0 E (j :: ord) ⟨v :: s.env, pend', tch', s.M⟩ D a w objs B G := by
  have hnD : ¬ D j := fun hd => hj (h.mem j hd)
  have hx : Ext ord s.env (j :: ord) (v :: s.env) := Ext.cons hj
  have hne' : ∀ k, k ∈ ord → newAt P ops k = true → newAt P ops j = true → M0.next + numN P ops k ≠ M0.next + numN P ops j := fun k hk h1 h2 he => by
    have := numN_inj h1 h2 (by omega)
    subst this
    exact hj hk
  refine { post := h.post, sub := h.sub, back := ?_, pnd := ?_, dis := ?_, nums := h.nums, nx := h.nx, vals := ?_, olds := h.olds, pds := ?_, mem := fun k hk => List.mem_cons_of_mem _ (h.mem k hk), eff := h.eff, eD := h.eD, cl := h.cl, lt := ?_, sz := h.sz, dfs := h.dfs, elen := by simp [h.elen] }
  · intro id o ho
    rcases h.back id o ho with h1 | ⟨h1, h2⟩
    · exact .inl h1
    · refine .inr ⟨h1, ?_⟩
      obtain ⟨_, k, hk, hkn, rfl⟩ := h.dis id o h2
      rw [hp _ fun hjn => hne' k hk hkn hjn]
      exact h2
  · intro k o hk hkn ho
    rw [hp _ fun hjn => hne' k (h.mem k hk) hkn hjn] at ho
    exact h.pnd k o hk hkn ho
  · intro id o ho
    by_cases hid : newAt P ops j = true ∧ id = M0.next + numN P ops j
    · obtain ⟨hjn, rfl⟩ := hid
      exact ⟨h.gone hF0 hjn hnD, j, by simp, hjn, rfl⟩
    · rw [hp id fun hjn he => hid ⟨hjn, he⟩] at ho
      obtain ⟨h1, k, hk, h2⟩ := h.dis id o ho
      exact ⟨h1, k, List.mem_cons_of_mem _ hk, h2⟩
  · intro k t hk ht
    obtain ⟨u, hu, hr⟩ := h.vals k t hk ht
    exact ⟨u, hx k u hu, hr⟩
  · intro k hk hkD
    rcases List.mem_cons.1 hk with rfl | hk
    · exact hpd
    · exact (h.pds k hk hkD).mono hx (fun hkn => hp _ fun hjn => hne' k hk hkn hjn) fun _ _ h => h.1
  · intro k hk
    rcases List.mem_cons.1 hk with rfl | hk
    · exact hjl
    · exact h.lt k hk
theorem NPre.free1 (h : NPre P L ops slots fr N ds M0 B0 G0 w0 E ord s D a w objs B G) (hF0 : Free M0.next B0) {j : Nat} (hj : j ∉ ord) (hjl : j < ops.length) (hne : effAt ops j = false) {its : List It}
    (he : evIts (itemD P L ops slots (ancs ops []) ord j false (some (numN P ops j)) :: its) call fr M0.next s K = some out) :
    ∃ s', evIts its call fr M0.next s' K = some out ∧ NPre P L ops slots fr N ds M0 B0 G0 w0 E (j :: ord) s' D a w objs B G := by
  have ho : ops[j]? = some ops[j] := List.getElem?_eq_getElem hjl
  have hnD : ¬ D j := fun hd => hj (h.mem j hd)
  have hpn : newAt P ops j = true → getO (M0.next + numN P ops j) s.pend = none := fun hn => by
    cases hg : getO (M0.next + numN P ops j) s.pend with
    | none => rfl
    | some o =>
      obtain ⟨_, k, hk, hkn, he⟩ := h.dis _ o hg
      have := numN_inj hn hkn (by omega)
      subst this
      exact absurd hk hj
  have hlook : ∀ v, lookE (j :: ord) (v :: s.env) j = some v := fun v => by rw [lookE_cons, if_pos rfl]
  have hitem : itemD P L ops slots (ancs ops []) ord j false (some (numN P ops j)) = match guardD ops (ancs ops []) ord j (ops[j]).guard with | some g => ⟨acOf P L (rhoD ops slots (ancs ops []) ord j) (ops[j]).op false (some (numN P ops j)), g⟩ | none => badIt := by unfold itemD; rw [ho]; rfl
  rw [evIts_cons] at he
  obtain ⟨b, hb, he⟩ := ob_some.1 he
  cases hgc : guardD ops (ancs ops []) ord j (ops[j]).guard with
  | none =>
    rw [hitem, hgc] at hb he
    cases hb
    cases he
  | some g =>
    rw [hitem, hgc] at hb he
    have hef : isEffO (ops[j]).op = false := by simpa [effAt, ho] using hne
    cases b with
    | false =>
      refine ⟨_, he, h.more hF0 hj hjl hne (fun _ _ => rfl) ⟨hne, _, _, ho, hlook _, ord, s.env, g, false, Ext.cons hj, hgc, hb, fun _ => ⟨rfl, hpn⟩, fun h => by cases h⟩⟩
    | true =>
      rcases acO_free hef he with ⟨p, v, h1, h2, he⟩ | ⟨p, v, r, h1, h2, h3, he⟩
      · exact ⟨_, he, h.more hF0 hj hjl hne (fun _ _ => rfl) ⟨hne, _, _, ho, hlook _, ord, s.env, g, true, Ext.cons hj, hgc, hb, (fun h => by cases h), fun _ => .inl ⟨p, h1, h2⟩⟩⟩
      · have hn : newAt P ops j = true := by simpa [newAt, ho] using h2
        have hgo : getO (M0.next + numN P ops j) (addO (M0.next + numN P ops j) r s.pend) = r := by
          cases r with
          | none => exact hpn hn
          | some o' => simp [addO, getO_cons]
        refine ⟨_, he, h.more hF0 hj hjl hne (fun id hid => ?_) ⟨hne, _, _, ho, hlook _, ord, s.env, g, true, Ext.cons hj, hgc, hb, (fun h => by cases h), fun _ => .inr ⟨p, h1, hn, by rw [hgo]; exact h3⟩⟩⟩
        cases r with
        | none => rfl
        | some o' =>
          show getO id ((_, _) :: _) = _
          rw [getO_cons, if_neg (hid hn)]
theorem NPre.frees (hF0 : Free M0.next B0) : ∀ (l ord : List Nat) (s : RS), NPre P L ops slots fr N ds M0 B0 G0 w0 E ord s D a w objs B G → (∀ j ∈ l, j ∉ ord ∧ j < ops.length ∧ effAt ops j = false) → l.Nodup →
    evIts (freeIts P L ops slots (ancs ops []) l ord) call fr M0.next s K = some out → ∃ s', K s' = some out ∧ NPre P L ops slots fr N ds M0 B0 G0 w0 E (l.reverse ++ ord) s' D a w objs B G
  | [], ord, s, h, hl, hn, he => ⟨s, he, h⟩
  | j :: l, ord, s, h, hl, hn, he => by
    obtain ⟨h1, h2, h3⟩ := hl j (by simp)
    obtain ⟨s', he', h'⟩ := h.free1 hF0 h1 h2 h3 he
    rw [List.nodup_cons] at hn
    obtain ⟨s'', hK, h''⟩ := NPre.frees hF0 l (j :: ord) s' h' (fun k hk => ⟨by
      have := (hl k (by simp [hk])).1
      have hkj : k ≠ j := fun e => hn.1 (e ▸ hk)
      simp [hkj, this], (hl k (by simp [hk])).2⟩) hn.2 he'
    exact ⟨s'', hK, by simpa using h''⟩
/-- The model does what the evaluator has done. -/
theorem NPre.done (h : NPre P L ops slots fr N ds M0 B0 G0 w0 E ord s D a w objs B G) (hD : drawOk ops = true) (hN : ∀ o ∈ ops, ∀ t, o.dst = some t → t < N.n ∧ N.kt t = false) {j : Nat} (hjo : j ∈ ord) (hj : ¬ D j) (hanc : ∀ k ∈ ancAt (ancs ops []) j, D k) {o : Oper} (ho : ops[j]? = some o) (hne : effAt ops j = false)
    {v : AV} {x : Value} (hv : lookE ord s.env j = some v) {w' : World} {objs' : Objs} {B' : Nat → Prop} {G' : Gm} (hP : Post objs B G w objs' B' G' w') (hr : R w' (Own objs' G') G' B' v x) (hsub : Sub s.M.objs objs')
    (hback : ∀ id o, getO id objs' = some o → getO id s.M.objs = some o ∨ (getO id s.M.objs = none ∧ getO id s.pend = some o))
    (hpnd : ∀ k o, (D k ∨ k = j) → newAt P ops k = true → getO (M0.next + numN P ops k) s.pend = some o → getO (M0.next + numN P ops k) objs' = some o)
    (hnums : ∀ id, B' id → B0 id ∨ (M0.next + numN P ops ops.length ≤ id ∧ id < s.M.next) ∨ ∃ k, (D k ∨ k = j) ∧ newAt P ops k = true ∧ id = M0.next + numN P ops k) :
    NPre P L ops slots fr N ds M0 B0 G0 w0 E ord s (fun k => D k ∨ k = j) (a.put o.dst x) w' objs' B' G' := by
  obtain ⟨h1, h2⟩ := h.put hD hN hj ho .refl hv (fun v x k => hP.r k) hr
  refine { post := h.post.trans hP, sub := hsub, back := hback, pnd := hpnd, dis := h.dis, nums := hnums, nx := h.nx, vals := h1, olds := h2, pds := fun k hk hkD => h.pds k hk fun hd => hkD (.inl hd), mem := ?_, eff := ?_, eD := fun k hk => .inl (h.eD k hk), cl := ?_, lt := h.lt, sz := h.sz.put (hN o (List.mem_of_getElem? ho)), dfs := by rw [put_defers]; exact h.dfs, elen := h.elen }
  · rintro k (hk | rfl)
    · exact h.mem k hk
    · exact hjo
  · intro k hk
    rw [h.eff k hk]
    refine ⟨.inl, fun hk' => hk'.resolve_right fun e => ?_⟩
    subst e
    rw [hne] at hk
    cases hk
  · rintro k (hk | rfl) i hi
    · exact .inl (h.cl k hk i hi)
    · exact .inl (hanc i hi)
theorem NPre.run (h : NPre P L ops slots fr N ds M0 B0 G0 w0 E ord s D a w objs B G) (hF0 : Free M0.next B0) (hD : drawOk ops = true) (hN : ∀ o ∈ ops, ∀ t, o.dst = some t → t < N.n ∧ N.kt t = false) {j : Nat} (hjo : j ∈ ord) (hj : ¬ D j) (hanc : ∀ k ∈ ancAt (ancs ops []) j, D k) {o : Oper} (ho : ops[j]? = some o)
    {next : Act → World → Prop} {Q : Exit → Act → World → Prop} (hnext : ∀ a' w' objs' B' G', NPre P L ops slots fr N ds M0 B0 G0 w0 E ord s (fun k => D k ∨ k = j) a' w' objs' B' G' → next a' w') :
    if Region.wanted o (yielded ops.toArray a.tmps) = true then o.wp P a w next Q else next (a.put o.dst undef) w := by
  obtain ⟨hne, o', v, ho', hv, ordj, envj, g, b, hx, hg, hb, h7, h8⟩ := h.pds j hjo hj
  rw [ho] at ho'
  cases ho'
  rw [h.wanted hanc hx hg hb]
  cases b with
  | false =>
    obtain ⟨rfl, hpn⟩ := h7 rfl
    rw [if_neg (by simp)]
    refine hnext _ _ _ _ _ (h.done hD hN hjo hj hanc ho hne hv (.refl h.post.st) R.undef h.sub h.back ?_ ?_)
    · rintro k u (hk | rfl) hkn hu
      · exact h.pnd k u hk hkn hu
      · rw [hpn hkn] at hu; cases hu
    · intro id hid
      rcases h.nums id hid with h1 | h1 | ⟨k, h1, h2⟩
      · exact .inl h1
      · exact .inr (.inl h1)
      · exact .inr (.inr ⟨k, .inl h1, h2⟩)
  | true =>
    rw [if_pos rfl]
    have hcx := h.cx hD hj hanc hx
    rcases h8 rfl with ⟨p, k1, k2⟩ | ⟨p, k1, hn, k3⟩
    · have hnn : newAt P ops j = false := by simpa [newAt, ho] using pOp_new k1
      obtain ⟨x, hrun, hr⟩ := pop_ok h.post.st hcx k1 (evP_mono k1 k2 fun _ _ _ id u _ _ _ _ hal => h.sub id u hal.1)
      unfold Oper.wp
      rw [hrun]
      refine hnext _ _ _ _ _ (h.done hD hN hjo hj hanc ho hne hv (.refl h.post.st) hr h.sub h.back ?_ ?_)
      · rintro k u (hk | rfl) hkn hu
        · exact h.pnd k u hk hkn hu
        · rw [hnn] at hkn; cases hkn
      · intro id hid
        rcases h.nums id hid with h1 | h1 | ⟨k, h1, h2⟩
        · exact .inl h1
        · exact .inr (.inl h1)
        · exact .inr (.inr ⟨k, .inl h1, h2⟩)
    · have hq := h.fresh hF0 hn hj
      have hM := h.gone hF0 hn hj
      obtain ⟨x, w', G', hrun, hP, hr⟩ := nop_ok h.post.st hcx k1 hq k3
      unfold Oper.wp
      rw [hrun]
      have hget : ∀ id, getO id (addO (M0.next + numN P ops j) (getO (M0.next + numN P ops j) s.pend) objs) = if id = M0.next + numN P ops j then (getO id s.pend).or (getO id objs) else getO id objs := by
        intro id
        cases hgp : getO (M0.next + numN P ops j) s.pend with
        | none =>
          show getO id objs = _
          split
          · rename_i e; subst e; rw [hgp]; rfl
          · rfl
        | some u =>
          show getO id ((_, _) :: _) = _
          rw [getO_cons]
          split
          · rename_i e; subst e; rw [hgp]; rfl
          · rfl
      have hon : getO (M0.next + numN P ops j) objs = none := by
        cases hg' : getO (M0.next + numN P ops j) objs with
        | none => rfl
        | some u => exact absurd (h.post.st.wf _ _ hg') hq
      refine hnext _ _ _ _ _ (h.done hD hN hjo hj hanc ho hne hv hP hr ?_ ?_ ?_ ?_)
      · intro id u hu
        rw [hget]
        split
        · rename_i e; subst e; rw [hM] at hu; cases hu
        · exact h.sub id u hu
      · intro id u hu
        rw [hget] at hu
        split at hu
        · rename_i e
          subst e
          rw [hon] at hu
          exact .inr ⟨hM, by simpa using hu⟩
        · exact h.back id u hu
      · rintro k u (hk | rfl) hkn hu
        · rw [hget, if_neg]
          · exact h.pnd k u hk hkn hu
          · intro e
            have := numN_inj hkn hn (by omega)
            subst this
            exact hj hk
        · rw [hget, if_pos rfl, hu]; rfl
      · intro id hid
        have hid' : B id ∨ id = M0.next + numN P ops j := by
          cases hgp : getO (M0.next + numN P ops j) s.pend with
          | none => rw [hgp] at hid; exact .inl hid
          | some u => rw [hgp] at hid; exact hid
        rcases hid' with hid | rfl
        · rcases h.nums id hid with h1 | h1 | ⟨k, h1, h2⟩
          · exact .inl h1
          · exact .inr (.inl h1)
          · exact .inr (.inr ⟨k, .inl h1, h2⟩)
        · exact .inr (.inr ⟨j, .inr rfl, hn, rfl⟩)
/-- What is pending enters the memory. -/
theorem NPre.flush (h : NPre P L ops slots fr N ds M0 B0 G0 w0 E ord s D a w objs B G) {qs : List Nat} (hq : ∀ j, newAt P ops j = true → numN P ops j ∈ qs → D j) :
    NPre P L ops slots fr N ds M0 B0 G0 w0 E ord ⟨s.env, (pickQ (mapL (fun q => M0.next + q) qs) s.pend).2, s.tch, ⟨s.M.next, app (pickQ (mapL (fun q => M0.next + q) qs) s.pend).1 s.M.objs⟩⟩ D a w objs B G := by
  have hg1 : ∀ id, getO id (pickQ (mapL (fun q => M0.next + q) qs) s.pend).1 = if id ∈ mapL (fun q => M0.next + q) qs then getO id s.pend else none := fun id => (pickQ_get _ id s.pend).1
  have hg2 : ∀ id, getO id (pickQ (mapL (fun q => M0.next + q) qs) s.pend).2 = if id ∈ mapL (fun q => M0.next + q) qs then none else getO id s.pend := fun id => (pickQ_get _ id s.pend).2
  have hin : ∀ j, newAt P ops j = true → M0.next + numN P ops j ∈ mapL (fun q => M0.next + q) qs → D j := fun j hn hm => by
    rw [mapL_eq, List.mem_map] at hm
    obtain ⟨q, hq', he⟩ := hm
    exact hq j hn (by rw [show numN P ops j = q by omega]; exact hq')
  have hgo : ∀ id, getO id (app (pickQ (mapL (fun q => M0.next + q) qs) s.pend).1 s.M.objs) = (if id ∈ mapL (fun q => M0.next + q) qs then getO id s.pend else none).or (getO id s.M.objs) := fun id => by rw [app_eq, getO_append, hg1]
  have hold : ∀ id o, getO id s.M.objs = some o → getO id (app (pickQ (mapL (fun q => M0.next + q) qs) s.pend).1 s.M.objs) = some o := by
    intro id o ho
    rw [hgo]
    cases hp : getO id s.pend with
    | none => simp [ho]
    | some o' => rw [(h.dis id o' hp).1] at ho; cases ho
  refine { post := h.post, sub := ?_, back := ?_, pnd := ?_, dis := ?_, nums := h.nums, nx := h.nx, vals := h.vals, olds := h.olds, pds := ?_, mem := h.mem, eff := h.eff, eD := h.eD, cl := h.cl, lt := h.lt, sz := h.sz, dfs := h.dfs, elen := h.elen }
  · intro id o ho
    rw [show getO id _ = _ from hgo id] at ho
    by_cases hm : id ∈ mapL (fun q => M0.next + q) qs
    · rw [if_pos hm] at ho
      cases hp : getO id s.pend with
      | none => rw [hp] at ho; exact h.sub id o (by simpa using ho)
      | some o' =>
        rw [hp] at ho
        simp at ho
        subst ho
        obtain ⟨_, j, hj, hn, rfl⟩ := h.dis id o' hp
        exact h.pnd j o' (hin j hn hm) hn hp
    · rw [if_neg hm] at ho
      exact h.sub id o (by simpa using ho)
  · intro id o ho
    rcases h.back id o ho with h1 | ⟨h1, h2⟩
    · exact .inl (hold id o h1)
    · show getO id (app _ _) = _ ∨ (getO id (app _ _) = _ ∧ getO id (pickQ _ _).2 = _)
      rw [hgo, hg2]
      by_cases hm : id ∈ mapL (fun q => M0.next + q) qs
      · left; rw [if_pos hm, h2]; rfl
      · right; rw [if_neg hm, if_neg hm]; exact ⟨by simpa using h1, h2⟩
  · intro j o hj hn ho
    rw [show getO _ (pickQ _ _).2 = _ from hg2 _] at ho
    split at ho
    · cases ho
    · exact h.pnd j o hj hn ho
  · intro id o ho
    rw [show getO _ (pickQ _ _).2 = _ from hg2 _] at ho
    split at ho
    · cases ho
    · rename_i hm
      refine ⟨?_, (h.dis id o ho).2⟩
      show getO id (app _ _) = _
      rw [hgo, if_neg hm]
      simpa using (h.dis id o ho).1
  · intro j hj hjD
    refine (h.pds j hj hjD).mono .refl (fun hn => ?_) fun id o hal => hold id o hal.1
    show getO _ (pickQ _ _).2 = _
    rw [hg2, if_neg fun hm => hjD (hin j hn hm)]
end
end Go.Ab
namespace Go.Ab
set_option maxRecDepth 8000
set_option linter.unusedVariables false
set_option linter.unusedSimpArgs false
section
variable {P : Program} {L : Nat} {ops : List Oper} {slots : List Nat} {fr : List AV} {N : Tm} {ds : List Deferred} {M0 : Mem} {B0 : Nat → Prop} {G0 : Gm} {w0 : World}
variable {E ord : List Nat} {s : RS} {D : Nat → Prop} {a : Act} {w : World} {objs : Objs} {B : Nat → Prop} {G : Gm} {call : Cll} {K : RS → Out} {out : Ex × Fr × Mem}
theorem evChk (y : Opd) (p : POp) (d : Opd) (l : List It) (base : Nat) : evIts (⟨.chk y p d, none⟩ :: l) call fr base s K = ob (opd y fr s.env) fun v => Option.rec (motive := fun _ => Out) (evIts l call fr base s K)
    (fun id => bf (memN id s.tch) (ob (evP p fr s.env s.M.objs) fun a => ob (opd d fr s.env) fun b => bf (AV.beq a b) (evIts l call fr base s K) none) (evIts l call fr base s K)) (idOf v) := rfl
/-- A read that may be done again behind an effect, and gives the same. -/
def Again (P : Program) (ops : List Oper) (slots : List Nat) (anc : List (List Nat)) (fr : List AV) (ord : List Nat) (env : List AV) (objs : Objs) (j : Nat) (op : Op) : Prop :=
  ∃ p a, pOp P (rhoD ops slots anc ord j) op = some p ∧ evP p fr env objs = some a ∧ lookE ord env j = some a
theorem recheck_ok {anc : List (List Nat)} {done ord : List Nat} {rest : List It} {base : Nat} : ∀ (l : List Nat), evIts (recheck P ops slots anc done ord l ++ rest) call fr base s K = some out →
    evIts rest call fr base s K = some out ∧ ∀ j ∈ l, ∀ o x, ops[j]? = some o → readOf P o.op = some x → (∀ e ∈ done, e ≠ j ∧ j ∉ ancAt anc e) →
      recheck P ops slots anc done ord l ≠ [] ∧ ∃ y u, opdC (rhoD ops slots anc ord j) x = some y ∧ opd y fr s.env = some u ∧ ((∀ id, idOf u = some id → id ∉ s.tch) ∨ Again P ops slots anc fr ord s.env s.M.objs j o.op)
  | [], h => ⟨h, fun j hj => by cases hj⟩
  | j :: l, h => by
    have skip : recheck P ops slots anc done ord (j :: l) = recheck P ops slots anc done ord l → (∀ o x, ops[j]? = some o → readOf P o.op = some x → (∀ e ∈ done, e ≠ j ∧ j ∉ ancAt anc e) → False) →
        evIts rest call fr base s K = some out ∧ ∀ k ∈ j :: l, ∀ o x, ops[k]? = some o → readOf P o.op = some x → (∀ e ∈ done, e ≠ k ∧ k ∉ ancAt anc e) →
          recheck P ops slots anc done ord (j :: l) ≠ [] ∧ ∃ y u, opdC (rhoD ops slots anc ord k) x = some y ∧ opd y fr s.env = some u ∧ ((∀ id, idOf u = some id → id ∉ s.tch) ∨ Again P ops slots anc fr ord s.env s.M.objs k o.op) := by
      intro e hno
      rw [e] at h ⊢
      obtain ⟨h1, h2⟩ := recheck_ok l h
      refine ⟨h1, fun k hk o x ho hx hd => ?_⟩
      rcases List.mem_cons.1 hk with rfl | hk
      · exact (hno o x ho hx hd).elim
      · exact h2 k hk o x ho hx hd
    cases ho : ops[j]? with
    | none => exact skip (by simp only [recheck, ho]) fun o x h => by rw [ho] at h; cases h
    | some o =>
      cases hx : readOf P o.op with
      | none => exact skip (by simp only [recheck, ho, hx]) fun o' x h h' => by rw [ho] at h; cases h; rw [hx] at h'; cases h'
      | some x =>
        cases hd : done.any fun e => e == j || (ancAt anc e).contains j with
        | true =>
          refine skip (by simp only [recheck, ho, hx, hd, if_true]) fun o' x' h h' hall => ?_
          rw [List.any_eq_true] at hd
          obtain ⟨e, he, hc⟩ := hd
          obtain ⟨h1, h2⟩ := hall e he
          simp at hc
          rcases hc with hc | hc
          · exact h1 hc
          · exact h2 hc
        | false =>
          have e : recheck P ops slots anc done ord (j :: l) = (match opdC (rhoD ops slots anc ord j) x, pOp P (rhoD ops slots anc ord j) o.op, idxN j ord with | some y, some p, some d => (⟨.chk y p (.res d), none⟩ : It) | _, _, _ => badIt) :: recheck P ops slots anc done ord l := by simp only [recheck, ho, hx, hd, Bool.false_eq_true, if_false]; rfl
          rw [e] at h ⊢
          cases hy : opdC (rhoD ops slots anc ord j) x with
          | none => rw [hy] at h; cases h
          | some y =>
          cases hp : pOp P (rhoD ops slots anc ord j) o.op with
          | none => rw [hy, hp] at h; cases h
          | some p =>
          cases hdx : idxN j ord with
          | none => rw [hy, hp, hdx] at h; cases h
          | some d =>
            rw [hy, hp, hdx, List.cons_append, evChk] at h
            obtain ⟨u, hu, h⟩ := ob_some.1 h
            have hh : evIts (recheck P ops slots anc done ord l ++ rest) call fr base s K = some out ∧ ((∀ id, idOf u = some id → id ∉ s.tch) ∨ Again P ops slots anc fr ord s.env s.M.objs j o.op) := by
              cases hid : idOf u with
              | none => rw [hid] at h; exact ⟨h, .inl fun _ h => by cases h⟩
              | some id =>
                rw [hid] at h
                have h : bf (memN id s.tch) (ob (evP p fr s.env s.M.objs) fun a => ob (opd (.res d) fr s.env) fun b => bf (AV.beq a b) (evIts (recheck P ops slots anc done ord l ++ rest) call fr base s K) none) (evIts (recheck P ops slots anc done ord l ++ rest) call fr base s K) = some out := h
                cases hm : memN id s.tch with
                | false =>
                  rw [hm] at h
                  refine ⟨h, .inl fun id' h' hmem => ?_⟩
                  cases h'
                  rw [(memN_eq _ _).2 hmem] at hm
                  cases hm
                | true =>
                  rw [hm] at h
                  obtain ⟨a, ha, h⟩ := ob_some.1 (show (ob (evP p fr s.env s.M.objs) fun a => ob (opd (.res d) fr s.env) fun b => bf (AV.beq a b) (evIts (recheck P ops slots anc done ord l ++ rest) call fr base s K) none) = some out from h)
                  obtain ⟨b, hb, h⟩ := ob_some.1 h
                  obtain ⟨hab, h⟩ := bf_some.1 h
                  have hb : nth s.env d = some b := hb
                  rw [nth_eq] at hb
                  exact ⟨h, .inr ⟨p, a, hp, ha, by unfold lookE; rw [hdx, AV.beq_eq hab]; exact hb⟩⟩
            obtain ⟨h1, h2⟩ := recheck_ok l hh.1
            refine ⟨h1, fun k hk o' x' ho' hx' hdd => ⟨by simp, ?_⟩⟩
            rcases List.mem_cons.1 hk with rfl | hk
            · rw [ho] at ho'
              cases ho'
              rw [hx] at hx'
              cases hx'
              exact ⟨y, u, hy, hu, hh.2⟩
            · exact (h2 k hk o' x' ho' hx' hdd).2
theorem opd_ext {j : Nat} {ordj ord' : List Nat} {envj env' : List AV} (hx : Ext ordj envj ord' env') {x : Operand} {y y' : Opd} {u u' : AV} (h1 : opdC (rhoD ops slots (ancs ops []) ordj j) x = some y) (h2 : opd y fr envj = some u)
    (h3 : opdC (rhoD ops slots (ancs ops []) ord' j) x = some y') (h4 : opd y' fr env' = some u') : u = u' := by
  cases x with
  | tmp t =>
    have h1 : rhoD ops slots (ancs ops []) ordj j t = some y := h1
    have h3 : rhoD ops slots (ancs ops []) ord' j t = some y' := h3
    have oldc : ∀ {y}, oldO slots t = some y → ∀ {env1 env2 : List AV} {u1 u2}, opd y fr env1 = some u1 → opd y fr env2 = some u2 → u1 = u2 := by
      intro y hy env1 env2 u1 u2 k1 k2
      unfold oldO at hy
      split at hy <;> cases hy
      exact Option.some.inj (k1.symm.trans k2)
    unfold rhoD at h1 h3
    split at h1
    · rename_i k hk
      simp only [hk] at h3
      cases hc : (ancAt (ancs ops []) j).contains k with
      | true =>
        simp only [hc, if_true] at h1 h3
        split at h1 <;> cases h1
        rename_i d hd
        split at h3 <;> cases h3
        rename_i d' hd'
        have h2 : nth envj d = some u := h2
        have h4 : nth env' d' = some u' := h4
        rw [nth_eq] at h2 h4
        have := hx k u (by unfold lookE; rw [hd]; exact h2)
        unfold lookE at this
        rw [hd'] at this
        have := this.symm.trans h4
        exact Option.some.inj this
      | false =>
        simp only [hc, Bool.false_eq_true, if_false] at h1 h3
        split at h1
        · rename_i hca
          simp only [hca, if_true] at h3
          rw [h1] at h3
          cases h3
          exact oldc h1 h2 h4
        · cases h1
    · rename_i hk
      simp only [hk] at h3
      rw [h1] at h3
      cases h3
      exact oldc h1 h2 h4
  | const v =>
    rw [show opdC (rhoD ops slots (ancs ops []) ord' j) (.const v) = opdC (rhoD ops slots (ancs ops []) ordj j) (.const v) from rfl, h1] at h3
    cases h3
    have h1 : (match ofValue 10 v with | some a => some (Opd.const a) | none => none) = some y := h1
    split at h1 <;> cases h1
    exact Option.some.inj (h2.symm.trans h4)
  | func f =>
    cases h1
    cases h3
    exact Option.some.inj (h2.symm.trans h4)
  | global g => cases h1
theorem eff_new {op : Op} (h : isEffO op = true) : isNewO P op = false := by
  unfold isEffO at h
  split at h <;> first | rfl | cases h
theorem guard_ext {j : Nat} {ordj ord' : List Nat} {envj env' : List AV} (hx : Ext ordj envj ord' env') {gd : Option (Nat × Bool)} {g : Option (Opd × Bool)} {b : Bool} (h : guardD ops (ancs ops []) ordj j gd = some g) (hb : guardOk g fr envj = some b) :
    ∃ g', guardD ops (ancs ops []) ord' j gd = some g' ∧ guardOk g' fr env' = some b := by
  cases gd with
  | none => cases h; cases hb; exact ⟨none, rfl, rfl⟩
  | some q =>
    obtain ⟨k, t⟩ := q
    unfold guardD at h ⊢
    simp only at h ⊢
    split at h
    · rename_i hc
      rw [if_pos hc]
      split at h <;> cases h
      rename_i d hd
      have hb : (ob (nth envj d) fun v => Option.rec (motive := fun _ => Option Bool) (ob (asTup v) fun l => bf (Nat.beq (len l) 0) (some false) none) (fun b => some (eqBb b t)) (asB v)) = some b := hb
      obtain ⟨v, hv, hb⟩ := ob_some.1 hb
      rw [nth_eq] at hv
      have hl := hx k v (by unfold lookE; rw [hd]; exact hv)
      unfold lookE at hl
      cases hd' : idxN k ord' with
      | none => rw [hd'] at hl; cases hl
      | some d' =>
        have hl : env'[d']? = some v := by rw [hd'] at hl; exact hl
        refine ⟨_, rfl, ?_⟩
        show (ob (nth env' d') fun v => Option.rec (motive := fun _ => Option Bool) (ob (asTup v) fun l => bf (Nat.beq (len l) 0) (some false) none) (fun b => some (eqBb b t)) (asB v)) = some b
        rw [nth_eq, hl]
        exact hb
    · cases h
theorem Pd.eff {base : Nat} {j e : Nat} {v : AV} {tch' : List Nat} {pend objsM objsM' : Objs} {env : List AV} {K' : RS → Out} {M' : Mem} (h : Pd P L ops slots fr base ord env pend objsM j) (he : e ∉ ord)
    (hk : ∀ o x, ops[j]? = some o → readOf P o.op = some x → ∃ y u, opdC (rhoD ops slots (ancs ops []) (e :: ord) j) x = some y ∧ opd y fr (v :: env) = some u ∧ ((∀ id, idOf u = some id → ∀ o', Alive objsM id o' → getO id objsM' = some o') ∨ Again P ops slots (ancs ops []) fr (e :: ord) (v :: env) objsM' j o.op)) :
    Pd P L ops slots fr base (e :: ord) (v :: env) pend objsM' j := by
  obtain ⟨h1, o, v', h2, h3, ordj, envj, g, b, h4, h5, h6, h7, h8⟩ := h
  have hx : Ext ord env (e :: ord) (v :: env) := Ext.cons he
  by_cases hag : Again P ops slots (ancs ops []) fr (e :: ord) (v :: env) objsM' j o.op
  · obtain ⟨g', hg1, hg2⟩ := guard_ext (h4.trans hx) h5 h6
    refine ⟨h1, o, v', h2, hx j v' h3, e :: ord, v :: env, g', b, .refl, hg1, hg2, h7, fun hb => ?_⟩
    rcases h8 hb with ⟨p, k1, k2⟩ | ⟨p, k1, k2, k3⟩
    · obtain ⟨p', a, q1, q2, q3⟩ := hag
      have := (hx j v' h3).symm.trans q3
      cases this
      exact .inl ⟨p', q1, q2⟩
    · obtain ⟨p', a, q1, q2, q3⟩ := hag
      have hn := pOp_new q1
      have : newAt P ops j = isNewO P o.op := by unfold newAt; rw [h2]
      rw [this, hn] at k2
      cases k2
  refine ⟨h1, o, v', h2, hx j v' h3, ordj, envj, g, b, h4.trans hx, h5, h6, h7, fun hb => ?_⟩
  rcases h8 hb with ⟨p, k1, k2⟩ | ⟨p, k1, k2, k3⟩
  · refine .inl ⟨p, k1, evP_mono k1 k2 fun x y u id o' hr hy hu hid hal => ?_⟩
    obtain ⟨y', u', q1, q2, q3⟩ := hk o x h2 hr
    have := opd_ext (h4.trans hx) hy hu q1 q2
    subst this
    exact (q3.resolve_right hag) id hid o' hal
  · exact .inr ⟨p, k1, k2, k3⟩
/-- An effect is done. -/
theorem NPre.acted (h : NPre P L ops slots fr N ds M0 B0 G0 w0 E ord s D a w objs B G) (hF0 : Free M0.next B0) (hD : drawOk ops = true) (hN : ∀ o ∈ ops, ∀ t, o.dst = some t → t < N.n ∧ N.kt t = false) {e : Nat} (he : effAt ops e = true) (heD : ¬ D e) (hanc : ∀ k ∈ ancAt (ancs ops []) e, D k) {o : Oper} (ho : ops[e]? = some o)
    {v : AV} {x : Value} {tch' : List Nat} {nx' : Nat} {objs1 objs2 : Objs} {B1 : Nat → Prop} {G2 : Gm} {w' : World} (hP : Post objs B G w objs2 B1 G2 w') (hr : R w' (Own objs2 G2) G2 B1 v x) (hgr : Grow s.M.next nx' B B1)
    (hnone : ∀ id, id < s.M.next → getO id s.M.objs = none → getO id objs1 = none) (hget : ∀ id, getO id objs2 = (getO id objs1).or (if (getO id s.M.objs).isNone then getO id objs else none))
    (hpd : ∀ j, j ∈ ord → ¬ D j → Pd P L ops slots fr M0.next (e :: ord) (v :: s.env) s.pend objs1 j) :
    NPre P L ops slots fr N ds M0 B0 G0 w0 (e :: E) (e :: ord) ⟨v :: s.env, s.pend, tch', ⟨nx', objs1⟩⟩ (fun k => D k ∨ k = e) (a.put o.dst x) w' objs2 B1 G2 := by
  have heo : e ∉ ord := fun hm => by
    have := (h.pds e hm heD).1
    rw [he] at this
    cases this
  have hen : newAt P ops e = false := by
    have : isEffO o.op = true := by simpa [effAt, ho] using he
    simpa [newAt, ho] using eff_new this
  have hnx := h.nx
  have hle := hgr.le
  have hpn : ∀ j, newAt P ops j = true → M0.next + numN P ops j < s.M.next := fun j hn => by
    have := numN_lt (newAt_lt hn) hn
    omega
  have hlook : lookE (e :: ord) (v :: s.env) e = some v := by rw [lookE_cons, if_pos rfl]
  obtain ⟨h1, h2⟩ := h.put hD hN heD ho (Ext.cons heo) hlook (fun v x k => hP.r k) hr
  refine { post := h.post.trans hP, sub := ?_, back := ?_, pnd := ?_, dis := ?_, nums := ?_, nx := by simp only; omega, vals := h1, olds := h2, pds := ?_, mem := ?_, eff := ?_, eD := ?_, cl := ?_, lt := ?_, sz := h.sz.put (hN o (List.mem_of_getElem? ho)), dfs := by rw [put_defers]; exact h.dfs, elen := by simp [h.elen] }
  · intro id u hu
    rw [hget, show getO id objs1 = some u from hu]
    rfl
  · intro id u hu
    rw [hget] at hu
    cases h3 : getO id objs1 with
    | some u' => rw [h3] at hu; exact .inl hu
    | none =>
      rw [h3] at hu
      cases h4 : getO id s.M.objs with
      | some u' => rw [h4] at hu; simp at hu
      | none =>
        rw [h4] at hu
        rcases h.back id u (by simpa using hu) with h5 | h5
        · rw [h4] at h5; cases h5
        · exact .inr ⟨rfl, h5.2⟩
  · rintro k u (hk | rfl) hkn hu
    · have h3 := (h.dis _ u hu).1
      rw [hget, hnone _ (hpn k hkn) h3, h3]
      simpa using h.pnd k u hk hkn hu
    · rw [hen] at hkn; cases hkn
  · intro id u hu
    obtain ⟨h3, j, hj, hn, rfl⟩ := h.dis id u hu
    exact ⟨hnone _ (hpn j hn) h3, j, List.mem_cons_of_mem _ hj, hn, rfl⟩
  · intro id hid
    rcases hgr.new id hid with hid | hid
    · rcases h.nums id hid with h3 | h3 | ⟨j, h3, h4⟩
      · exact .inl h3
      · exact .inr (.inl ⟨h3.1, by simp only; omega⟩)
      · exact .inr (.inr ⟨j, .inl h3, h4⟩)
    · exact .inr (.inl ⟨by omega, hid.2⟩)
  · intro j hj hjD
    rcases List.mem_cons.1 hj with rfl | hj
    · exact absurd (.inr rfl) hjD
    · exact hpd j hj fun hd => hjD (.inl hd)
  · rintro k (hk | rfl)
    · exact List.mem_cons_of_mem _ (h.mem k hk)
    · simp
  · intro k hk
    rw [List.mem_cons, h.eff k hk]
    exact ⟨fun h => h.symm, fun h => h.symm⟩
  · intro k hk
    rcases List.mem_cons.1 hk with rfl | hk
    · exact .inr rfl
    · exact .inl (h.eD k hk)
  · rintro k (hk | rfl) i hi
    · exact .inl (h.cl k hk i hi)
    · exact .inl (hanc i hi)
  · intro k hk
    rcases List.mem_cons.1 hk with rfl | hk
    · exact (List.getElem?_eq_some_iff.1 ho).1
    · exact h.lt k hk
theorem NPre.effect (hcall : CllOk P call) (h : NPre P L ops slots fr N ds M0 B0 G0 w0 E ord s D a w objs B G) (hF0 : Free M0.next B0) (hD : drawOk ops = true) (hN : ∀ o ∈ ops, ∀ t, o.dst = some t → t < N.n ∧ N.kt t = false) {e : Nat} (he : effAt ops e = true) (heD : ¬ D e) (hanc : ∀ k ∈ ancAt (ancs ops []) e, D k)
    {o : Oper} (ho : ops[e]? = some o) {rest : List It}
    (hev : evIts (⟨.fl (newsOf P ops (ancAt (ancs ops []) e)), none⟩ :: itemD P L ops slots (ancs ops []) ord e (!(recheck P ops slots (ancs ops []) (e :: E) (e :: ord) (e :: ord)).isEmpty) none ::
      (recheck P ops slots (ancs ops []) (e :: E) (e :: ord) (e :: ord) ++ rest)) call fr M0.next s K = some out)
    {next : Act → World → Prop} (hnext : ∀ s' a' w' objs' B' G', evIts rest call fr M0.next s' K = some out → NPre P L ops slots fr N ds M0 B0 G0 w0 (e :: E) (e :: ord) s' (fun k => D k ∨ k = e) a' w' objs' B' G' → next a' w') :
    if Region.wanted o (yielded ops.toArray a.tmps) = true then o.wp P a w next (QOk slots N ds M0 B0 G0 w0 out) else next (a.put o.dst undef) w := by
  have hq : ∀ j, newAt P ops j = true → numN P ops j ∈ newsOf P ops (ancAt (ancs ops []) e) → D j := by
    intro j hn hm
    simp only [newsOf, List.mem_map, List.mem_filter] at hm
    obtain ⟨k, ⟨h1, h2⟩, h3⟩ := hm
    have := numN_inj h2 hn h3
    subst this
    exact hanc k h1
  have h1 := h.flush hq
  have hev : evIts (itemD P L ops slots (ancs ops []) ord e (!(recheck P ops slots (ancs ops []) (e :: E) (e :: ord) (e :: ord)).isEmpty) none :: (recheck P ops slots (ancs ops []) (e :: E) (e :: ord) (e :: ord) ++ rest)) call fr M0.next
    ⟨s.env, (pickQ (mapL (fun q => M0.next + q) (newsOf P ops (ancAt (ancs ops []) e))) s.pend).2, s.tch, ⟨s.M.next, app (pickQ (mapL (fun q => M0.next + q) (newsOf P ops (ancAt (ancs ops []) e))) s.pend).1 s.M.objs⟩⟩ K = some out := hev
  generalize (⟨s.env, (pickQ (mapL (fun q => M0.next + q) (newsOf P ops (ancAt (ancs ops []) e))) s.pend).2, s.tch, ⟨s.M.next, app (pickQ (mapL (fun q => M0.next + q) (newsOf P ops (ancAt (ancs ops []) e))) s.pend).1 s.M.objs⟩⟩ : RS) = s1 at h1 hev
  clear h
  have heo : e ∉ ord := fun hm => by
    have := (h1.pds e hm heD).1
    rw [he] at this
    cases this
  rw [evIts_cons] at hev
  obtain ⟨b, hb, hev⟩ := ob_some.1 hev
  have hitem : ∀ t, itemD P L ops slots (ancs ops []) ord e t none = match guardD ops (ancs ops []) ord e o.guard with | some g => ⟨acOf P L (rhoD ops slots (ancs ops []) ord e) o.op t none, g⟩ | none => badIt := by intro t; unfold itemD; rw [ho]; rfl
  generalize ht : (!(recheck P ops slots (ancs ops []) (e :: E) (e :: ord) (e :: ord)).isEmpty) = t at hb hev
  have hdone : ∀ j, j ∈ ord → ¬ D j → ∀ k ∈ e :: E, k ≠ j ∧ j ∉ ancAt (ancs ops []) k := by
    intro j hj hjD k hk
    rcases List.mem_cons.1 hk with rfl | hk
    · exact ⟨fun h => heo (h ▸ hj), fun hm => hjD (hanc j hm)⟩
    · exact ⟨fun h => hjD (h ▸ h1.eD k hk), fun hm => hjD (h1.cl k (h1.eD k hk) j hm)⟩
  cases hgc : guardD ops (ancs ops []) ord e o.guard with
  | none =>
    rw [hitem, hgc] at hb hev
    cases hb
    cases hev
  | some g =>
    rw [hitem, hgc] at hb hev
    rw [h1.wanted hanc .refl hgc hb]
    cases b with
    | false =>
      rw [if_neg (by simp)]
      obtain ⟨hrest, _⟩ := recheck_ok _ (show evIts (recheck P ops slots (ancs ops []) (e :: E) (e :: ord) (e :: ord) ++ rest) call fr M0.next ⟨undefA :: s1.env, s1.pend, s1.tch, s1.M⟩ K = some out from hev)
      refine hnext _ _ _ _ _ _ hrest (h1.acted (nx' := s1.M.next) (objs1 := s1.M.objs) hF0 hD hN he heD hanc ho (.refl h1.post.st) R.undef .refl (fun _ _ h => h) (fun id => ?_) fun j hj hjD => (h1.pds j hj hjD).mono (Ext.cons heo) (fun _ => rfl) fun _ _ h => h.1)
      cases hg : getO id s1.M.objs with
      | none => simp
      | some u => rw [h1.sub id u hg]; rfl
    | true =>
      rw [if_pos rfl]
      have hsp := h1.post.st.split h1.sub
      have hcx : Cx (rhoD ops slots (ancs ops []) ord e) fr s1.env a w (Own s1.M.objs (partG s1.M.objs objs G)) (partG s1.M.objs objs G) B := fun t o v ht hv => by
        rw [part_own h1.sub]
        exact (h1.cx hD heD hanc .refl t o v ht hv).gm rfl
      have hfree := h1.free hF0
      have hevA : evAct (acOf P L (rhoD ops slots (ancs ops []) ord e) o.op t none) call fr M0.next ⟨s1.env, s1.pend, s1.tch, ⟨s1.M.next, s1.M.objs⟩⟩ (fun s => evIts (recheck P ops slots (ancs ops []) (e :: E) (e :: ord) (e :: ord) ++ rest) call fr M0.next s K) = some out := hev
      refine act_ok hcall hsp hfree hcx hevA ?_ ?_
      · intro v x tch' nx' objs1 B1 G1 w' hK hP hgr hr hfrm
        obtain ⟨hJ, hO⟩ := hP.join h1.post.st h1.sub fun id hb hn => hfrm.none id (by
          have := hfree
          by_cases hlt : id < s1.M.next
          · exact hlt
          · exact absurd hb (this id (by omega))) hn
        obtain ⟨hrest, hchk⟩ := recheck_ok _ hK
        have hr' : R w' (Own (joinO s1.M.objs objs objs1) ⟨G1.f, G.X⟩) ⟨G1.f, G.X⟩ B1 v x := by rw [hO]; exact hr.gm rfl
        refine hnext _ _ _ _ _ _ hrest (h1.acted (nx' := nx') (objs1 := objs1) hF0 hD hN he heD hanc ho hJ hr' hgr hfrm.none (fun id => getO_join id) fun j hj hjD => ?_)
        refine (h1.pds j hj hjD).eff (K' := K) (M' := s1.M) (tch' := tch') heo fun o' x' ho' hx' => ?_
        obtain ⟨hne, y, u, k1, k2, k3⟩ := hchk j (List.mem_cons_of_mem _ hj) o' x' ho' hx' (hdone j hj hjD)
        refine ⟨y, u, k1, k2, k3.imp (fun k3 id hid o'' hal => hfrm.keep ?_ id o'' hal.1 ?_ (k3 id hid)) id⟩
        · rw [← ht]
          cases hrc : recheck P ops slots (ancs ops []) (e :: E) (e :: ord) (e :: ord) with
          | nil => exact absurd hrc hne
          | cons _ _ => rfl
        · by_cases hlt : id < s1.M.next
          · exact hlt
          · exact absurd (hsp.wf id o'' hal.1) (hfree id (by omega))
      · intro v x nx' objs1 B1 G1 w' hout hP hgr hr hnone
        subst hout
        obtain ⟨hJ, hO⟩ := hP.join h1.post.st h1.sub fun id hb hn => hnone id (by
          by_cases hlt : id < s1.M.next
          · exact hlt
          · exact absurd hb (hfree id (by omega))) hn
        have hsub : Sub objs1 (joinO s1.M.objs objs objs1) := fun id u hu => by rw [getO_join, hu]; rfl
        have hr' : R w' (Own (joinO s1.M.objs objs objs1) ⟨G1.f, G.X⟩) ⟨G1.f, G.X⟩ B1 v x := by rw [hO]; exact hr.gm rfl
        exact ⟨B1, ⟨G1.f, G.X⟩, (h1.post.trans hJ).drop hsub, h1.grow.trans hgr, ⟨x, rfl, hr'.drop hsub⟩, fun h => (by cases h), h1.sz, h1.dfs⟩
end
end Go.Ab
namespace Go.Ab
set_option maxRecDepth 8000
set_option linter.unusedVariables false
set_option linter.unusedSimpArgs false
def unl (listed : Array Bool) : Nat → Nat
  | 0 => 0
  | n + 1 => unl listed n + if listed.getD n true = true then 0 else 1
theorem unl_zero {listed : Array Bool} : ∀ {n : Nat}, unl listed n = 0 → ∀ j, j < n → listed.getD j true = true
  | 0, h, j, hj => by omega
  | n + 1, h, j, hj => by
    unfold unl at h
    by_cases hj' : j = n
    · subst hj'
      split at h
      · assumption
      · omega
    · exact unl_zero (listed := listed) (n := n) (by omega) j (by omega)
theorem getD_set {listed : Array Bool} {i j : Nat} {d : Bool} (hi : i < listed.size) : (listed.setIfInBounds i true).getD j d = if i = j then true else listed.getD j d := by
  simp only [Array.getD_eq_getD_getElem?, Array.getElem?_setIfInBounds]
  split
  · rename_i h; subst h; simp [hi]
  · rfl
theorem unl_set {listed : Array Bool} {i : Nat} (hi : i < listed.size) (h : listed.getD i true = false) : ∀ n, unl (listed.setIfInBounds i true) n + (if i < n then 1 else 0) = unl listed n
  | 0 => rfl
  | n + 1 => by
    have ih := unl_set hi h n
    unfold unl
    rw [getD_set hi]
    by_cases hin : i = n
    · subst hin
      simp only [Nat.lt_irrefl, if_false] at ih
      simp [h]
      omega
    · simp only [hin, if_false]
      by_cases hlt : i < n
      · simp only [hlt, if_true] at ih
        have : i < n + 1 := by omega
        simp only [this, if_true]
        omega
      · simp only [hlt, if_false] at ih
        have : ¬ i < n + 1 := by omega
        simp only [this, if_false]
        omega
theorem getD_false {listed : Array Bool} {i : Nat} (h : listed.getD i true = false) : i < listed.size ∧ listed.getD i false = false := by
  rw [Array.getD_eq_getD_getElem?] at h ⊢
  cases hg : listed[i]? with
  | none => rw [hg] at h; cases h
  | some b =>
    rw [hg] at h
    exact ⟨(Array.getElem?_eq_some_iff.1 hg).1, h⟩
section
variable {P : Program} {L : Nat} {slots : List Nat} {fr : List AV} {N : Tm} {ds : List Deferred} {M0 : Mem} {B0 : Nat → Prop} {G0 : Gm} {w0 : World} {call : Cll} {out : Ex × Fr × Mem}
variable (P L) (slots) in
def kidT (ops : List Oper) (n : Nat) (E ord : List Nat) (e : Nat) : DT :=
  mkDT P L ops slots (ancs ops []) n (e :: E) (e :: ord) (⟨.fl (newsOf P ops (ancAt (ancs ops []) e)), none⟩ :: itemD P L ops slots (ancs ops []) ord e (!(recheck P ops slots (ancs ops []) (e :: E) (e :: ord) (e :: ord)).isEmpty) none :: recheck P ops slots (ancs ops []) (e :: E) (e :: ord) (e :: ord))
variable (P L) (slots) (fr) in
noncomputable def restK (ops : List Oper) (n : Nat) (E ord : List Nat) (call : Cll) (base : Nat) (s : RS) : Out := match readyE ops (ancs ops []) E with
  | [] => evIts [⟨.fl (List.range ops.length), none⟩] call fr base s (finish (wbC ops ord slots 0) fr)
  | r => evDTs (r.map (kidT P L slots ops n E ord)) call fr base s
theorem node_run {ops : List Oper} {n : Nat} {E ord : List Nat} {pre : List It} {base : Nat} {s : RS} : evDT (mkDT P L ops slots (ancs ops []) (n + 1) E ord pre) call fr base s =
    evIts (pre ++ freeIts P L ops slots (ancs ops []) (enabled ops (ancs ops []) E ord) ord) call fr base s (restK P L slots fr ops n E ((enabled ops (ancs ops []) E ord).reverse ++ ord) call base) := by
  unfold mkDT
  simp only
  cases hr : readyE ops (ancs ops []) E with
  | nil =>
    rw [evDT_leaf, evIts_append _ [_]]
    congr 1
    funext s
    unfold restK
    rw [hr]
  | cons e r =>
    show evDT (.node (pre ++ freeIts P L ops slots (ancs ops []) (enabled ops (ancs ops []) E ord) ord) [] (kidT P L slots ops n E ((enabled ops (ancs ops []) E ord).reverse ++ ord) e :: r.map (kidT P L slots ops n E ((enabled ops (ancs ops []) E ord).reverse ++ ord)))) call fr base s = _
    rw [evDT_node]
    congr 1
    funext s
    unfold restK
    rw [hr]
    rfl
theorem drawn_go {aops : Array Oper} (hfl : fr.length = slots.length) (hcall : CllOk P call) (hF0 : Free M0.next B0) (hD : drawOk aops.toList = true) (hN : ∀ o ∈ aops.toList, ∀ t, o.dst = some t → t < N.n ∧ N.kt t = false) :
    ∀ (fuel n : Nat) (E ord : List Nat) (s : RS) (listed : Array Bool) (a : Act) (w : World) (objs : Objs) (B : Nat → Prop) (G : Gm), listed.size = aops.size → unl listed aops.toList.length ≤ fuel →
      NPre P L aops.toList slots fr N ds M0 B0 G0 w0 E ord s (fun j => listed.getD j false = true) a w objs B G →
      (∀ j, j < aops.toList.length → effAt aops.toList j = false → (∀ k ∈ ancAt (ancs aops.toList []) j, effAt aops.toList k = true → k ∈ E) → j ∈ ord) →
      restK P L slots fr aops.toList n E ord call M0.next s = some out → wpAny P .any aops (QOk slots N ds M0 B0 G0 w0 out) fuel listed a w := by
  have atEnd : ∀ (n : Nat) (E ord : List Nat) (s : RS) (listed : Array Bool) (a : Act) (w : World) (objs : Objs) (B : Nat → Prop) (G : Gm), listed.size = aops.size →
      NPre P L aops.toList slots fr N ds M0 B0 G0 w0 E ord s (fun j => listed.getD j false = true) a w objs B G →
      restK P L slots fr aops.toList n E ord call M0.next s = some out → Region.ready .any aops listed = [] → QOk slots N ds M0 B0 G0 w0 out .normal a w := by
    intro n E ord s listed a w objs B G hls h hrest hready
    have hall : ∀ j, j < aops.toList.length → listed.getD j false = true := by
      intro j
      induction j using Nat.strongRecOn with
      | _ j ih =>
        intro hj
        cases hc : listed.getD j true with
        | true =>
          rw [Array.getD_eq_getD_getElem?] at hc ⊢
          rw [Array.getElem?_eq_getElem (by rw [hls]; simpa using hj)] at hc ⊢
          exact hc
        | false =>
          exfalso
          have ho : aops[j]? = some (aops[j]'(by simpa using hj)) := Array.getElem?_eq_getElem (by simpa using hj)
          have : j ∈ Region.ready .any aops listed := mem_ready.2 ⟨hc, _, ho, fun e he hb => by
            have := (drawOk_some hD (show aops.toList[j]? = some (aops[j]'(by simpa using hj)) from (Array.getElem?_toList).trans ho)).1 e (by simpa using he) hb
            exact ih e.on this (by omega)⟩
          rw [hready] at this
          cases this
    have hre : readyE aops.toList (ancs aops.toList []) E = [] := by
      unfold readyE
      rw [List.filter_eq_nil_iff]
      intro i hi
      rw [List.mem_range] at hi
      simp only [Bool.and_eq_true, Bool.not_eq_true', not_and]
      intro h1 h2
      have := (h.eff i h1.1).2 (hall i hi)
      simp [this] at h1
    unfold restK at hrest
    rw [hre] at hrest
    have h1 := h.flush (qs := List.range aops.toList.length) fun j hn _ => hall j (newAt_lt hn)
    obtain ⟨fr', hfr, hout⟩ := ob_some.1 (show (ob (setSlots s.env (wbC aops.toList ord slots 0) fr) fun fr' => some (Ex.normal, fr', (⟨s.M.next, app (pickQ (mapL (fun q => M0.next + q) (List.range aops.toList.length)) s.pend).1 s.M.objs⟩ : Mem))) = some out from hrest)
    cases hout
    refine ⟨B, G, h1.post.drop h1.sub, h1.grow, rfl, fun _ => ?_, h.sz, h.dfs⟩
    obtain ⟨l1, _, l3⟩ := setSlots_ok slots 0 fr fr' hfr
    have hlen : fr.length = slots.length := hfl
    refine ⟨l1.trans hlen, fun i t hi => ?_⟩
    obtain ⟨q1, q2⟩ := l3 i t hi
    rw [Nat.zero_add] at q1 q2
    cases hw : wr aops.toList ord t with
    | none =>
      rw [q1 hw]
      obtain ⟨v, hv, hr⟩ := h1.olds i t hi fun j hj => wr_none hw j (h1.mem j hj)
      exact ⟨v, hv, hr.drop h1.sub⟩
    | some d =>
      obtain ⟨v, hv, hf⟩ := q2 d hw (by rw [hlen]; exact (List.getElem?_eq_some_iff.1 hi).1)
      obtain ⟨j, hj1, hj2⟩ := wr_idx hw
      have hjo := List.mem_of_getElem? (idxN_some hj1)
      obtain ⟨u, hu, hr⟩ := h1.vals j t (hall j (h.lt j hjo)) hj2
      unfold lookE at hu
      rw [hj1] at hu
      have hu : s.env[d]? = some u := hu
      rw [hv] at hu
      cases hu
      exact ⟨v, hf, hr.drop h1.sub⟩
  intro fuel
  induction fuel with
  | zero =>
    intro n E ord s listed a w objs B G hls hun h hen hrest
    have hready : Region.ready .any aops listed = [] := by
      cases hr : Region.ready .any aops listed with
      | nil => rfl
      | cons j l =>
        obtain ⟨h1, o, ho, _⟩ := mem_ready.1 (by rw [hr]; simp : j ∈ Region.ready .any aops listed)
        rw [unl_zero (Nat.le_zero.1 hun) j (by simpa using (Array.getElem?_eq_some_iff.1 ho).1)] at h1
        cases h1
    exact ⟨hready, atEnd n E ord s listed a w objs B G hls h hrest hready⟩
  | succ fuel ih =>
    intro n E ord s listed a w objs B G hls hun h hen hrest
    refine ⟨fun hready => atEnd n E ord s listed a w objs B G hls h hrest hready, fun i hi => ?_⟩
    obtain ⟨h1, o, ho, hedge⟩ := mem_ready.1 hi
    obtain ⟨hil, hnD⟩ := getD_false h1
    have hilt : i < aops.toList.length := by rw [hls] at hil; simpa using hil
    have hoL : aops.toList[i]? = some o := by simpa using ho
    have hanc : ∀ k ∈ ancAt (ancs aops.toList []) i, listed.getD k false = true := by
      intro k hk
      obtain ⟨e, he, hb, hk⟩ := anc_step hoL hk
      have hd := hedge e (by simpa using he) hb
      rcases hk with rfl | hk
      · exact hd
      · exact h.cl e.on hd k hk
    have hset : ∀ k, ((listed.setIfInBounds i true).getD k false = true) = (listed.getD k false = true ∨ k = i) := by
      intro k
      rw [getD_set hil]
      apply propext
      by_cases hik : i = k
      · simp [hik]
      · have : ¬ k = i := fun h => hik h.symm
        simp [hik, this]
    have hun' : unl (listed.setIfInBounds i true) aops.toList.length ≤ fuel := by
      have := unl_set hil h1 aops.toList.length
      rw [if_pos hilt] at this
      omega
    unfold wpOp
    rw [ho]
    simp only
    have key : (if Region.wanted o (yielded aops a.tmps) = true then o.wp P a w (wpAny P .any aops (QOk slots N ds M0 B0 G0 w0 out) fuel (listed.setIfInBounds i true)) (QOk slots N ds M0 B0 G0 w0 out) else wpAny P .any aops (QOk slots N ds M0 B0 G0 w0 out) fuel (listed.setIfInBounds i true) (a.put o.dst undef) w) := by
      cases hef : effAt aops.toList i with
      | false =>
        have hio := hen i hilt hef fun k hk hke => (h.eff k hke).2 (hanc k hk)
        refine h.run hF0 hD hN hio (by rw [hnD]; simp) hanc hoL fun a' w' objs' B' G' h' => ?_
        refine ih n E ord s (listed.setIfInBounds i true) a' w' objs' B' G' (by simpa using hls) hun' ?_ hen hrest
        rw [show (fun j => (listed.setIfInBounds i true).getD j false = true) = fun j => listed.getD j false = true ∨ j = i from funext hset]
        exact h'
      | true =>
        have hir : i ∈ readyE aops.toList (ancs aops.toList []) E := by
          unfold readyE
          rw [List.mem_filter, List.mem_range]
          refine ⟨hilt, ?_⟩
          simp only [Bool.and_eq_true, Bool.not_eq_true', List.all_eq_true, Bool.or_eq_true, hef, true_and]
          refine ⟨?_, fun k hk => ?_⟩
          · cases hc : E.contains i with
            | false => rfl
            | true =>
              have := (h.eff i hef).1 (by simpa using hc)
              rw [hnD] at this
              cases this
          · cases hek : effAt aops.toList k with
            | false => exact .inl rfl
            | true => exact .inr (by simpa using (h.eff k hek).2 (hanc k hk))
        have hkid : evDT (kidT P L slots aops.toList n E ord i) call fr M0.next s = some out := by
          unfold restK at hrest
          cases hr : readyE aops.toList (ancs aops.toList []) E with
          | nil => rw [hr] at hir; cases hir
          | cons e r =>
            rw [hr] at hrest hir
            exact evDTs_all hrest _ (List.mem_map.2 ⟨i, hir, rfl⟩)
        cases n with
        | zero => cases hkid
        | succ n =>
          unfold kidT at hkid
          rw [node_run] at hkid
          refine h.effect hcall hF0 hD hN hef (by rw [hnD]; simp) hanc hoL hkid fun s' a' w' objs' B' G' hK h' => ?_
          have hen1 : ∀ j ∈ enabled aops.toList (ancs aops.toList []) (i :: E) (i :: ord), j ∉ i :: ord ∧ j < aops.toList.length ∧ effAt aops.toList j = false := by
            intro j hj
            unfold enabled at hj
            rw [List.mem_filter, List.mem_range] at hj
            simp only [Bool.and_eq_true, Bool.not_eq_true'] at hj
            refine ⟨fun hm => ?_, hj.1, hj.2.1.1⟩
            have : (i :: ord).contains j = true := by rw [List.contains_iff_mem]; exact hm
            rw [this] at hj
            cases hj.2.1.2
          obtain ⟨s'', hK', h''⟩ := NPre.frees hF0 _ _ _ h' hen1 (List.Nodup.sublist List.filter_sublist List.nodup_range) hK
          refine ih n (i :: E) _ s'' (listed.setIfInBounds i true) a' w' objs' B' G' (by simpa using hls) hun' ?_ ?_ hK'
          · rw [show (fun j => (listed.setIfInBounds i true).getD j false = true) = fun j => listed.getD j false = true ∨ j = i from funext hset]
            exact h''
          · intro j hj hje hall
            rw [List.mem_append, List.mem_reverse]
            by_cases hm : j ∈ i :: ord
            · exact .inr hm
            · left
              unfold enabled
              rw [List.mem_filter, List.mem_range]
              refine ⟨hj, ?_⟩
              simp only [Bool.and_eq_true, Bool.not_eq_true', hje, true_and, List.all_eq_true, Bool.or_eq_true]
              refine ⟨?_, fun k hk => ?_⟩
              · cases hc : (i :: ord).contains j with
                | false => rfl
                | true => exact absurd (List.contains_iff_mem.1 hc) hm
              · cases hek : effAt aops.toList k with
                | false => exact .inl rfl
                | true => exact .inr (List.contains_iff_mem.2 (hall k hk hek))
    split
    · rename_i hw
      rw [if_pos hw] at key
      exact .inl key
    · rename_i hw
      rw [if_neg hw] at key
      exact key
/-- A region that draws its order. -/
theorem dreg_ok {B : Nat → Prop} {G : Gm} {w : World} {a : Act} {M : Mem} {id : Nat} {aops : Array Oper} (hfollow : P.follows .mixedOrders = true) (hcall : CllOk P call) (hD : drawOk aops.toList = true) (hN : ∀ o ∈ aops.toList, ∀ t, o.dst = some t → t < N.n ∧ N.kt t = false)
    (he : evDReg ((List.range aops.toList.length).filter (newAt P aops.toList)).length (mkDT P L aops.toList slots (ancs aops.toList []) aops.toList.length [] [] []) call fr M = some out)
    (hS : St M.objs B G w) (hF : Free M.next B) (hfr : FrOk slots fr a w (Own M.objs G) G B) (hsz : AtT a N) : (Code.region id aops true).wp P (QOk slots N a.defers M B G w out) a w := by
  refine wp_region_any hfollow ?_
  have hP : Post M.objs B G w M.objs B G w.drew := Post.free hS (drew_ev w)
  cases hn : aops.toList.length with
  | zero => rw [hn] at he; cases he
  | succ n =>
    have he : evDT (mkDT P L aops.toList slots (ancs aops.toList []) aops.toList.length [] [] []) call fr M.next ⟨[], [], [], ⟨M.next + numN P aops.toList aops.toList.length, M.objs⟩⟩ = some out := he
    rw [hn, node_run] at he
    rw [← hn] at he
    have h0 : NPre P L aops.toList slots fr N a.defers M B G w [] [] ⟨[], [], [], ⟨M.next + numN P aops.toList aops.toList.length, M.objs⟩⟩ (fun _ => False) a w.drew M.objs B G :=
      { post := hP, sub := fun _ _ h => h, back := fun _ _ h => .inl h, pnd := fun _ _ h => h.elim, dis := fun id o h => (by cases h), nums := fun _ h => .inl h, nx := Nat.le_refl _, vals := fun _ _ h => h.elim,
        olds := fun i t hi _ => (by
          obtain ⟨v, hv, hr⟩ := hfr.val i t hi
          exact ⟨v, hv, hP.r hr⟩), pds := fun _ h => (by cases h), mem := fun _ h => h.elim, eff := fun j _ => ⟨fun h => (by cases h), fun h => h.elim⟩, eD := fun _ h => (by cases h), cl := fun _ h => h.elim, lt := fun _ h => (by cases h), sz := hsz, dfs := rfl, elen := rfl }
    have hen1 : ∀ j ∈ enabled aops.toList (ancs aops.toList []) [] [], j ∉ ([] : List Nat) ∧ j < aops.toList.length ∧ effAt aops.toList j = false := by
      intro j hj
      unfold enabled at hj
      rw [List.mem_filter, List.mem_range] at hj
      simp only [Bool.and_eq_true, Bool.not_eq_true'] at hj
      exact ⟨by simp, hj.1, hj.2.1.1⟩
    obtain ⟨s', hK, h'⟩ := NPre.frees hF _ _ _ h0 hen1 (List.Nodup.sublist List.filter_sublist List.nodup_range) he
    have hrep : ∀ j, ¬ (Array.replicate aops.size false).getD j false = true := by
      intro j
      rw [Array.getD_eq_getD_getElem?, Array.getElem?_replicate]
      split <;> simp
    refine drawn_go (hfl := hfr.len) hcall hF hD hN aops.size n [] _ s' (Array.replicate aops.size false) a w.drew M.objs B G (by simp) ?_ ?_ ?_ hK
    · have hub : ∀ (l : Array Bool) (m : Nat), unl l m ≤ m := by
        intro l m
        induction m with
        | zero => exact Nat.le_refl _
        | succ m ih => unfold unl; split <;> omega
      have := hub (Array.replicate aops.size false) aops.toList.length
      simpa using this
    · rw [show (fun j => (Array.replicate aops.size false).getD j false = true) = fun _ => False from funext fun j => propext ⟨fun h => hrep j h, fun h => h.elim⟩]
      exact h'
    · intro j hj hje hall
      rw [List.mem_append, List.mem_reverse]
      left
      unfold enabled
      rw [List.mem_filter, List.mem_range]
      refine ⟨hj, ?_⟩
      simp only [Bool.and_eq_true, Bool.not_eq_true', hje, true_and, List.all_eq_true, Bool.or_eq_true]
      refine ⟨rfl, fun k hk => ?_⟩
      cases hek : effAt aops.toList k with
      | false => exact .inl rfl
      | true => exact absurd (hall k hk hek) (by simp)
end
end Go.Ab
namespace Go.Ab
set_option maxRecDepth 8000
set_option linter.unusedVariables false
set_option linter.unusedSimpArgs false
theorem least {p : Nat → Prop} (h : ∃ n, p n) : ∃ n, p n ∧ ∀ m, p m → n ≤ m := by
  obtain ⟨n, hn⟩ := h
  induction n using Nat.strongRecOn with
  | _ n ih =>
    by_cases hm : ∃ m, m < n ∧ p m
    · obtain ⟨m, h1, h2⟩ := hm
      exact ih m h1 h2
    · exact ⟨n, hn, fun m hm' => Nat.le_of_not_lt fun hlt => hm ⟨m, hlt, hm'⟩⟩
open Classical in
/-- A loop whose rounds are bounded. -/
theorem wp_loop_fuel {P : Program} {c : Code} {Q : Exit → Act → World → Prop} {p : Nat → Act → World → Prop} (h0 : ∀ a w, ¬ p 0 a w) (step : ∀ k a w, p (k + 1) a w → c.wp P (Exit.then (p k) Q) a w) {k : Nat} {a : Act} {w : World} (h : p k a w) : (Code.loop c).wp P Q a w := by
  refine wp_loop (fun a w => ∃ k, p k a w) (fun a w => if h : ∃ k, p k a w then Classical.choose (least h) else 0) ⟨k, h⟩ fun a w hI => ?_
  obtain ⟨h1, h2⟩ := Classical.choose_spec (least hI)
  generalize hm : Classical.choose (least hI) = m at h1 h2
  cases m with
  | zero => exact absurd h1 (h0 a w)
  | succ m =>
    refine wp_mono (step m a w h1) fun e a' w' hq => ?_
    cases e with
    | normal =>
      have hq : p m a' w' := hq
      have hI' : ∃ k, p k a' w' := ⟨m, hq⟩
      refine ⟨hI', ?_⟩
      rw [dif_pos hI', dif_pos hI, hm]
      have := (Classical.choose_spec (least hI')).2 m hq
      omega
    | _ => exact hq
section
variable {P : Program} {L : Nat} {slots : List Nat} {N : Tm} {ds : List Deferred} {M0 : Mem} {B0 : Nat → Prop} {G0 : Gm} {w0 : World} {call : Cll}
theorem QOk.trans {M : Mem} {B : Nat → Prop} {G : Gm} {w : World} {out : Ex × Fr × Mem} (hP : Post M0.objs B0 G0 w0 M.objs B G w) (hG : Grow M0.next M.next B0 B) {e : Exit} {a : Act} {w' : World} (h : QOk slots N ds M B G w out e a w') : QOk slots N ds M0 B0 G0 w0 out e a w' := by
  obtain ⟨B', G', h1, h2, h3⟩ := h
  exact ⟨B', G', hP.trans h1, hG.trans h2, h3⟩
theorem ExOk.normal {e : Ex} {rel : AV → Value → Prop} (h : ExOk e .normal rel) : e = .normal := by
  cases e <;> first | rfl | (cases h; done) | (obtain ⟨_, h, _⟩ := h; cases h)
theorem exCases_not {α : Type} {e : Ex} {n o : α} {x : Nat → α} (h : e ≠ .normal) (hx : ∀ i, x i = o) : exCases e n x o = o := by
  cases e with
  | normal => exact absurd rfl h
  | exit i => exact hx i
  | _ => rfl
theorem code_ok (hfollow : P.follows .mixedOrders = true) (hcall : CllOk P call) (hF0 : Free M0.next B0) (n : Nat) : ∀ (c : Code) (fr : List AV) (M : Mem) (out : Ex × Fr × Mem) (B : Nat → Prop) (G : Gm) (a : Act) (w : World), dstsT N c = true →
    evCode (cCode P L slots c) call n fr M = some out → Post M0.objs B0 G0 w0 M.objs B G w → Grow M0.next M.next B0 B → FrOk slots fr a w (Own M.objs G) G B → AtT a N → a.defers = ds → c.wp P (QOk slots N ds M0 B0 G0 w0 out) a w := by
  intro c
  induction c with
  | skip =>
    intro fr M out B G a w hd he hP hG hfr hsz hds
    cases he
    exact wp_skip ⟨B, G, hP, hG, rfl, fun _ => hfr, hsz, hds⟩
  | region id ops d =>
    intro fr M out B G a w hd he hP hG hfr hsz hds
    have hN : ∀ o ∈ ops.toList, ∀ t, o.dst = some t → t < N.n ∧ N.kt t = false := by
      intro o ho t ht
      have hd : (ops.toList.all fun o => match o.dst with | some d => decide (d < N.n) && !N.kt d | none => true) = true := hd
      rw [List.all_eq_true] at hd
      have := hd o ho
      rw [ht] at this
      simpa using this
    have he : evCode (regCC P L slots ops.toList d) call n fr M = some out := he
    cases d with
    | false =>
      have he : evReg (regC P L ops.toList slots ops.toList.length 0 []) (wbC ops.toList (downFrom ops.toList.length) slots 0) call fr M = some out := he
      have := reg_ok (id := id) hcall hN he hP.st (hG.free hF0) hfr hsz
      rw [hds] at this
      exact wp_mono this fun e a w h => h.trans hP hG
    | true =>
      unfold regCC at he
      simp only [if_true] at he
      split at he
      · rename_i hdr
        have he : evDReg ((List.range ops.toList.length).filter (newAt P ops.toList)).length (mkDT P L ops.toList slots (ancs ops.toList []) ops.toList.length [] [] []) call fr M = some out := he
        have := dreg_ok (id := id) hfollow hcall hdr hN he hP.st (hG.free hF0) hfr hsz
        rw [hds] at this
        exact wp_mono this fun e a w h => h.trans hP hG
      · cases he
  | seq x y ihx ihy =>
    intro fr M out B G a w hd he hP hG hfr hsz hds
    have hd : (dstsT N x && dstsT N y) = true := hd
    rw [Bool.and_eq_true] at hd
    obtain ⟨r, hr, he⟩ := ob_some.1 (show (ob (evCode (cCode P L slots x) call n fr M) fun r => exCases r.1 (evCode (cCode P L slots y) call n r.2.1 r.2.2) (fun _ => some r) (some r)) = some out from he)
    refine wp_seq (wp_mono (ihx fr M r B G a w hd.1 hr hP hG hfr hsz hds) fun e a' w' hq => ?_)
    obtain ⟨B', G', h1, h2, h3, h4, h5, h6⟩ := hq
    cases e with
    | normal =>
      have hn := h3.normal
      rw [hn] at he
      exact ihy r.2.1 r.2.2 out B' G' a' w' hd.2 he h1 h2 (h4 (by rw [hn]; rfl)) h5 h6
    | _ =>
      have hn : r.1 ≠ .normal := fun hn => by rw [hn] at h3; cases h3
      rw [exCases_not hn fun _ => rfl] at he
      cases he
      exact ⟨B', G', h1, h2, h3, h4, h5, h6⟩
  | cond o x y ihx ihy =>
    intro fr M out B G a w hd he hP hG hfr hsz hds
    obtain ⟨hdx, hdy⟩ := Bool.and_eq_true_iff.1 (show (dstsT N x && dstsT N y) = true from hd)
    cases o with
    | tmp t =>
      unfold cCode at he
      split at he
      · rename_i i hi
        obtain ⟨v, hv, he⟩ := ob_some.1 (show (ob (nth fr i) fun v => ob (asB v) fun t => bf t (evCode (cCode P L slots x) call n fr M) (evCode (cCode P L slots y) call n fr M)) = some out from he)
        obtain ⟨b, hb, he⟩ := ob_some.1 he
        rw [nth_eq] at hv
        obtain ⟨v', hv', hr⟩ := hfr.val i t (slotO_some hi)
        rw [hv] at hv'
        cases hv'
        rw [asB_some hb] at hr
        cases b with
        | true => exact wp_cond_true hr.bool (ihx fr M out B G a w hdx he hP hG hfr hsz hds)
        | false => exact wp_cond_false hr.bool (ihy fr M out B G a w hdy he hP hG hfr hsz hds)
      · cases he
    | _ => cases he
  | block i b ih =>
    intro fr M out B G a w hd he hP hG hfr hsz hds
    obtain ⟨r, hr, he⟩ := ob_some.1 (show (ob (evCode (cCode P L slots b) call n fr M) fun r => exCases r.1 (some r) (fun j => bf (Nat.beq j i) (some (.normal, r.2)) (some r)) (some r)) = some out from he)
    refine wp_block (wp_mono (ih fr M r B G a w hd hr hP hG hfr hsz hds) fun e a' w' hq => ?_)
    obtain ⟨B', G', h1, h2, h3, h4, h5, h6⟩ := hq
    obtain ⟨ex, fr', M'⟩ := r
    cases ex with
    | normal =>
      have h3 : e = .normal := h3
      subst h3
      cases he
      exact ⟨B', G', h1, h2, rfl, h4, h5, h6⟩
    | exit j =>
      have h3 : e = .exit j := h3
      subst h3
      have he : bf (Nat.beq j i) (some (Ex.normal, fr', M')) (some (Ex.exit j, fr', M')) = some out := he
      show (if j = i then _ else _)
      by_cases hj : j = i
      · subst hj
        rw [Nat.beq_refl] at he
        cases he
        rw [if_pos rfl]
        exact ⟨B', G', h1, h2, rfl, h4, h5, h6⟩
      · have hb : Nat.beq j i = false := by
          cases hb : Nat.beq j i with
          | false => rfl
          | true => exact absurd (Nat.eq_of_beq_eq_true hb) hj
        rw [hb] at he
        cases he
        rw [if_neg hj]
        exact ⟨B', G', h1, h2, rfl, h4, h5, h6⟩
    | ret =>
      have h3 : e = .ret := h3
      subst h3
      cases he
      exact ⟨B', G', h1, h2, rfl, h4, h5, h6⟩
    | pan v =>
      obtain ⟨y, rfl, hy⟩ := h3
      cases he
      exact ⟨B', G', h1, h2, ⟨y, rfl, hy⟩, h4, h5, h6⟩
  | loop b ih =>
    intro fr M out B G a w hd he hP hG hfr hsz hds
    have he : loopN n (evCode (cCode P L slots b) call n) fr M = some out := he
    refine wp_loop_fuel (p := fun k a w => ∃ fr M B G, loopN k (evCode (cCode P L slots b) call n) fr M = some out ∧ Post M0.objs B0 G0 w0 M.objs B G w ∧ Grow M0.next M.next B0 B ∧ FrOk slots fr a w (Own M.objs G) G B ∧ AtT a N ∧ a.defers = ds)
      (fun a w h => ?_) (fun k a w h => ?_) ⟨fr, M, B, G, he, hP, hG, hfr, hsz, hds⟩
    · obtain ⟨_, _, _, _, h, _⟩ := h
      cases h
    · obtain ⟨fr, M, B, G, he, hP, hG, hfr, hsz, hds⟩ := h
      obtain ⟨r, hr, he⟩ := ob_some.1 (show (ob (evCode (cCode P L slots b) call n fr M) fun r => exCases r.1 (loopN k (evCode (cCode P L slots b) call n) r.2.1 r.2.2) (fun _ => some r) (some r)) = some out from he)
      refine wp_mono (ih fr M r B G a w hd hr hP hG hfr hsz hds) fun e a' w' hq => ?_
      obtain ⟨B', G', h1, h2, h3, h4, h5, h6⟩ := hq
      cases e with
      | normal =>
        have hn := h3.normal
        rw [hn] at he
        exact ⟨r.2.1, r.2.2, B', G', he, h1, h2, h4 (by rw [hn]; rfl), h5, h6⟩
      | _ =>
        have hn : r.1 ≠ .normal := fun hn => by rw [hn] at h3; cases h3
        rw [exCases_not hn fun _ => rfl] at he
        cases he
        exact ⟨B', G', h1, h2, h3, h4, h5, h6⟩
  | exit i =>
    intro fr M out B G a w hd he hP hG hfr hsz hds
    cases he
    exact wp_exit ⟨B, G, hP, hG, rfl, fun _ => hfr, hsz, hds⟩
  | ret =>
    intro fr M out B G a w hd he hP hG hfr hsz hds
    cases he
    exact wp_ret ⟨B, G, hP, hG, rfl, fun _ => hfr, hsz, hds⟩
  | _ =>
    intros
    rename_i he _ _ _ _ _
    cases he
end
end Go.Ab
