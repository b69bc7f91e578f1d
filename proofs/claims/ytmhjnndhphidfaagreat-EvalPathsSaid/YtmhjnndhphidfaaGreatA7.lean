/- Functions: the body and the results. Returns: what a call has made is frozen. Objects numbered anew. Functions. Calls, in a memory of their own. Calls, whole. -/
import Derived.Test.YtmhjnndhphidfaaGreatA6
namespace Go.Ab
set_option maxRecDepth 8000
set_option linter.unusedVariables false
set_option linter.unusedSimpArgs false
section
variable {P : Program} {L : Nat} {slots : List Nat} {fr : List AV} {objs : Objs} {B : Nat → Prop} {G : Gm} {w : World} {a : Act}
def resF (tmps : Array Value) : ResultVar → Sem Value
  | .tmp t => pure (tmps.getD t undef)
  | .cell a t => do loadVar t (← asAddr (tmps.getD a undef))
theorem results_eq (fn : Func) (tmps : Array Value) : results fn tmps = (do let vs ← fn.results.mapM (resF tmps); pure (if h : vs.size = 1 then vs[0] else .tuple vs)) := rfl
theorem res_one (hS : St objs B G w) (hfr : FrOk slots fr a w (Own objs G) G B) {r : ResultVar} {q : RV} {v : AV} (hq : rvC P slots r = some q) (hv : RV.casesOn (motive := fun _ => Option AV) q (fun i => ob (nth fr i) fun v => some v) (fun i n => ob (nth fr i) fun v => loadA objs n v) = some v) :
    ∃ x, (resF a.tmps r).run P w = .ok x w ∧ R w (Own objs G) G B v x := by
  cases r with
  | tmp t =>
    unfold rvC at hq
    simp only at hq
    split at hq <;> cases hq
    rename_i i hi
    obtain ⟨u, hu, hv⟩ := ob_some.1 (show (ob (nth fr i) fun v => some v) = some v from hv)
    cases hv
    rw [nth_eq] at hu
    obtain ⟨u', hu', hr⟩ := hfr.val i t (slotO_some hi)
    rw [hu] at hu'
    cases hu'
    exact ⟨_, rfl, hr⟩
  | cell t ty =>
    unfold rvC at hq
    simp only at hq
    split at hq <;> try (cases hq; done)
    rename_i i hi
    split at hq <;> cases hq
    rename_i m hm
    obtain ⟨u, hu, hv⟩ := ob_some.1 (show (ob (nth fr i) fun v => loadA objs m v) = some v from hv)
    rw [nth_eq] at hu
    obtain ⟨u', hu', hr⟩ := hfr.val i t (slotO_some hi)
    rw [hu] at hu'
    cases hu'
    obtain ⟨y, ad, h1, h2, h3⟩ := loadA_ok (P := P) hS hm hr hv
    have h1 : a.tmps.getD t undef = .pointer (some ad) := h1
    exact ⟨y, by simp [resF, h1, asAddr, h2], h3⟩
theorem res_run (hS : St objs B G w) (hfr : FrOk slots fr a w (Own objs G) G B) : ∀ (l : List ResultVar) (rs : List RV) (vs : List AV), mapC (rvC P slots) l = some rs → evRes rs fr objs = some vs →
    ∃ xs, (l.mapM (resF a.tmps)).run P w = .ok xs w ∧ RL w (Own objs G) G B vs xs
  | [], rs, vs, h, he => by
    cases h
    cases he
    exact ⟨[], by simp, .nil⟩
  | r :: l, rs, vs, h, he => by
    rw [mapC_eq, mapO_cons] at h
    obtain ⟨q, hq, h⟩ := ob_some.1 h
    obtain ⟨qs, hqs, h⟩ := ob_some.1 h
    cases h
    unfold evRes at he
    rw [mapO_cons] at he
    obtain ⟨v, hv, he⟩ := ob_some.1 he
    obtain ⟨vs', hvs, he⟩ := ob_some.1 he
    cases he
    obtain ⟨xs, h1, h2⟩ := res_run hS hfr l qs vs' (by rw [mapC_eq]; exact hqs) hvs
    obtain ⟨x, hx, hr⟩ := res_one (P := P) hS hfr hq hv
    exact ⟨x :: xs, by simp [hx, h1], .cons hr h2⟩
theorem results_ok (hS : St objs B G w) (hfr : FrOk slots fr a w (Own objs G) G B) {fn : Func} {rs : List RV} {vs : List AV} (h : mapC (rvC P slots) fn.results.toList = some rs) (he : evRes rs fr objs = some vs) :
    ∃ x, (results fn a.tmps).run P w = .ok x w ∧ R w (Own objs G) G B (resV vs) x := by
  obtain ⟨xs, h1, h2⟩ := res_run hS hfr _ rs vs h he
  have hrun : (fn.results.mapM (resF a.tmps)).run P w = .ok xs.toArray w := by
    rw [Array.mapM_eq_mapM_toList]
    simp [h1]
  have hl := h2.1
  match vs, xs, h2 with
  | [], [], h2 =>
    refine ⟨.tuple #[], by rw [results_eq]; simp [hrun], ⟨.tup [] [] rfl (by simp), by intro r hr; simp [resV] at hr⟩⟩
  | [v], [x], h2 => exact ⟨x, by rw [results_eq]; simp [hrun], h2.2 0 v x rfl rfl⟩
  | v :: v' :: vs, x :: x' :: xs, h2 =>
    refine ⟨.tuple (x :: x' :: xs).toArray, by rw [results_eq]; simp [hrun], ⟨.tup _ _ h2.1 fun i u y h1 h2' => (h2.2 i u y h1 h2').1, ?_⟩⟩
    intro r hr
    have hr : r ∈ refs (.tup (v :: v' :: vs)) := hr
    rw [refs_tup] at hr
    exact h2.below r hr
  | [], x :: xs, h2 => cases h2.1
  | v :: vs, [], h2 => cases h2.1
  | [v], x :: x' :: xs, h2 => cases h2.1
  | v :: v' :: vs, [x], h2 => cases h2.1
/-! ### The slots -/
theorem addN_get (t : Nat) (l : List Nat) (i : Nat) (h : i < l.length) : (addN t l)[i]? = l[i]? := by
  unfold addN
  split
  · rfl
  · rw [List.getElem?_append_left h]
theorem addN_len (t : Nat) (l : List Nat) : l.length ≤ (addN t l).length := by
  unfold addN
  split <;> simp
theorem slots_get : ∀ (xs l : List Nat), l.length ≤ (xs.foldl (fun l t => addN t l) l).length ∧ (∀ i, i < l.length → (xs.foldl (fun l t => addN t l) l)[i]? = l[i]?) ∧
    ∀ (i t : Nat), (xs.foldl (fun l t => addN t l) l)[i]? = some t → i < l.length ∨ t ∉ l
  | [], l => ⟨Nat.le_refl _, fun _ _ => rfl, fun i t h => .inl (List.getElem?_eq_some_iff.1 h).1⟩
  | x :: xs, l => by
    obtain ⟨h1, h2, h3⟩ := slots_get xs (addN x l)
    have hl := addN_len x l
    refine ⟨Nat.le_trans hl h1, fun i hi => (h2 i (by omega)).trans (addN_get x l i hi), fun i t h => ?_⟩
    rcases h3 i t h with hi | hi
    · by_cases hil : i < l.length
      · exact .inl hil
      · right
        have h := h
        rw [List.foldl_cons, h2 i hi] at h
        unfold addN at h hi
        split at h
        · exact absurd (List.getElem?_eq_some_iff.1 h).1 hil
        · rename_i hc
          rw [List.getElem?_append_right (by omega)] at h
          have := (List.getElem?_eq_some_iff.1 h)
          obtain ⟨hlt, he⟩ := this
          simp at hlt
          have : i - l.length = 0 := by omega
          simp [this] at he
          subst he
          simpa using hc
    · right
      intro hm
      refine hi ?_
      unfold addN
      split
      · exact hm
      · exact List.mem_append_left _ hm
theorem start_ok {np nt : Nat} {ts : List Nat} {vs : List AV} {xs : List Value} (hr : RL w (Own objs G) G B vs xs) (h1 : vs.length ≤ np) (h2 : np ≤ nt) :
    FrOk (ts.foldl (fun l t => addN t l) (List.range np)) (app vs (List.replicate ((ts.foldl (fun l t => addN t l) (List.range np)).length - len vs) undefA)) ⟨(⟨xs⟩ : Array Value) ++ Array.replicate (nt - xs.length) undef, []⟩ w (Own objs G) G B := by
  obtain ⟨l1, l2, l3⟩ := slots_get ts (List.range np)
  generalize ts.foldl (fun l t => addN t l) (List.range np) = slots at l1 l2 l3
  rw [List.length_range] at l1 l2 l3
  rw [app_eq, len_eq]
  have hl := hr.1
  refine ⟨by simp; omega, fun i t hi => ?_⟩
  have hil := (List.getElem?_eq_some_iff.1 hi).1
  have hev : ∀ t, (⟨(⟨xs⟩ : Array Value) ++ Array.replicate (nt - xs.length) undef, []⟩ : Act).eval (.tmp t) = (xs[t]?).getD undef := by
    intro t
    show ((⟨xs⟩ : Array Value) ++ Array.replicate (nt - xs.length) undef).getD t undef = _
    rw [Array.getD_eq_getD_getElem?, Array.getElem?_append]
    simp only [List.size_toArray, List.getElem?_toArray]
    split
    · rfl
    · rename_i hlt
      rw [List.getElem?_eq_none (by omega), Array.getElem?_replicate]
      split <;> rfl
  rw [hev]
  by_cases hiv : i < vs.length
  · have : slots[i]? = some i := by rw [l2 i (by omega), List.getElem?_range (by omega)]
    rw [hi] at this
    cases this
    rw [List.getElem?_append_left hiv]
    obtain ⟨x, hx, hrx⟩ := hr.get (List.getElem?_eq_getElem hiv)
    exact ⟨_, List.getElem?_eq_getElem hiv, by rw [hx]; exact hrx⟩
  · refine ⟨undefA, ?_, ?_⟩
    · rw [List.getElem?_append_right (by omega), List.getElem?_replicate, if_pos (by omega)]
    · have ht : xs.length ≤ t := by
        by_cases hin : i < np
        · have : slots[i]? = some i := by rw [l2 i hin, List.getElem?_range hin]
          rw [hi] at this
          cases this
          omega
        · rcases l3 i t hi with h | h
          · exact absurd h hin
          · rw [List.mem_range] at h
            omega
      rw [List.getElem?_eq_none ht]
      exact R.undef
end
end Go.Ab
namespace Go.Ab
set_option maxRecDepth 8000
set_option linter.unusedVariables false
set_option linter.unusedSimpArgs false
section
variable {P : Program} {objs : Objs} {B : Nat → Prop} {G : Gm} {w : World} {k : Nat}
theorem bltT {a b : Nat} : Nat.blt a b = true ↔ a < b := by
  unfold Nat.blt
  rw [Nat.ble_eq]
  exact Iff.rfl
theorem bltF {a b : Nat} : Nat.blt a b = false ↔ b ≤ a := by
  cases h : Nat.blt a b with
  | true => have := bltT.1 h; simp; omega
  | false =>
    simp
    rcases Nat.lt_or_ge a b with h' | h'
    · rw [bltT.2 h'] at h; cases h
    · exact h'
theorem keepK_cons (i : Nat) (o : Ob) (l : Objs) : keepK k ((i, o) :: l) = bf (Nat.blt i k) ((i, o) :: keepK k l) (keepK k l) := rfl
theorem keepK_get (id : Nat) : ∀ l : Objs, getO id (keepK k l) = if id < k then getO id l else none
  | [] => by simp [keepK]
  | (i, o) :: l => by
    rw [keepK_cons]
    cases hi : Nat.blt i k with
    | true =>
      have hi := bltT.1 hi
      rw [bf_true, getO_cons, getO_cons, keepK_get id l]
      split
      · rename_i h; subst h; rw [if_pos hi]
      · rfl
    | false =>
      have hi := bltF.1 hi
      rw [bf_false, getO_cons, keepK_get id l]
      by_cases h : id = i
      · subst h; rw [if_neg (by omega), if_neg (by omega)]
      · rw [if_neg h]
theorem keepK_sub : Sub (keepK k objs) objs := fun id o h => by
  rw [keepK_get] at h
  split at h
  · exact h
  · cases h
/-- What lies in newer objects is nobody's then. -/
theorem keep_free (hS : St objs B G w) {id : Nat} {o : Ob} (h : Alive objs id o) (hk : k ≤ id) : ¬ Own (keepK k objs) G (G id).b := by
  rintro (hx | ⟨j, o', h1, h2⟩)
  · exact hS.apart id o h hx
  · have hlt : j < k := by
      have := h1.1
      rw [keepK_get] at this
      split at this
      · assumption
      · cases this
    have := hS.inj j o' id o (keepK_sub.alive h1) h h2
    omega
theorem toPVL_rec (n : Nat) : ∀ a : List AV, AV.rec_1 (motive_1 := fun _ => Option PV) (motive_2 := fun _ => Option (List PV)) some (some (.fz [])) (fun es => some (.fz es))
      (fun id _ i m => bf (Nat.ble k id) (ob (getO id objs) fun o => ob (subO o i m) fun o => Ob.casesOn (motive := fun _ => Option PV) o (fun es => some (.fz es)) (fun es => ob (mapO (mapO (toPV k objs n)) es) fun es => some (.fz es)) (fun _ => none) (fun _ => none) none) none)
      (fun _ _ _ => none) (fun _ _ _ => none) none (fun _ => none) none (fun _ _ _ _ _ => none) none (fun _ _ _ => none) none (fun _ r => ob r fun cs => some (.agg cs)) (fun _ _ => none)
      (some []) (fun _ _ a b => ob a fun a => ob b fun b => some (a :: b)) a = mapO (toPV k objs (n + 1)) a
  | [] => rfl
  | v :: l => by
    rw [mapO_cons, ← toPVL_rec n l]
    rfl
theorem toPV_agg (n : Nat) (cs : List AV) : toPV k objs (n + 1) (.agg cs) = ob (mapO (toPV k objs (n + 1)) cs) fun cs => some (.agg cs) := by rw [← toPVL_rec]; rfl
theorem fz_row (hS : St objs B G w) {id i m : Nat} {o o' : Ob} {s : Nat} (ho : getO id objs = some o) (hsub : subO o i m = some o') (hs : (G id).s = s) (hk : k ≤ id) {es : List (List PV)} {ev : List (List AV)} (hv : view o' = some ev)
    (hes : es.length = ev.length ∧ ∀ (i : Nat) (c : List PV), es[i]? = some c → ∃ d, ev[i]? = some d ∧ d.length = c.length ∧ ∀ (j : Nat) (p : PV), c[j]? = some p → ∃ v, d[j]? = some v ∧ ∀ x, AVRel w (Own objs G) G v x → PRel w (Own (keepK k objs) G) p x) :
    Fz w (Own (keepK k objs) G) es (G id).b ((G id).o + i * s) s ∧ es.length = m := by
  obtain ⟨es0, v1, v2, v3⟩ := subO_view hsub
  have hal : Alive objs id o := ⟨ho, view_alive v1⟩
  have hels := (elem_view hS ho v1).sub i m
  rw [hv] at v2
  have v2 := Option.some.inj v2
  rw [← v2, hs] at hels
  refine ⟨{ lt := (hS.lt id o hal).2, own := keep_free hS hal hk, len := fun j c hc => ?_, at_ := fun j q c p hc hp => ?_ }, ?_⟩
  · obtain ⟨d, hd, hl, _⟩ := hes.2 j c hc
    obtain ⟨xs, _, _, h3, _⟩ := hels j d hd
    omega
  · obtain ⟨d, hd, hl, hq⟩ := hes.2 j c hc
    obtain ⟨v, hv', hx⟩ := hq q p hp
    obtain ⟨xs, h1, h2, h3, h4⟩ := hels j d hd
    obtain ⟨x, hxx, hr⟩ := h1.get hv'
    exact ⟨x, h4 q x hxx, h2 x (List.mem_of_getElem? hxx), hx x hr.1⟩
  · rw [hes.1, v2]
    simp
    omega
theorem toPV_ok (hS : St objs B G w) : ∀ (n : Nat) {v : AV} {x : Value} (h : AVRel w (Own objs G) G v x) {p : PV}, toPV k objs n v = some p → PRel w (Own (keepK k objs) G) p x
  | 0, v, x, h, p, hp => by cases hp
  | n + 1, v, x, h, p, hp => by
    induction h generalizing p with
    | p v x h => cases hp; exact h.drop keepK_sub
    | nils => cases hp; exact .fz0 _ _
    | lit es a h => cases hp; exact h.drop keepK_sub
    | row id s i len cap c e hs hc hb hcap =>
      have hp : bf (Nat.ble k id) (ob (getO id objs) fun o => ob (subO o i len) fun o => Ob.casesOn (motive := fun _ => Option PV) o (fun es => some (.fz es)) (fun es => ob (mapO (mapO (toPV k objs n)) es) fun es => some (.fz es)) (fun _ => none) (fun _ => none) none) none = some p := hp
      rw [bf_some] at hp
      obtain ⟨hk, hp⟩ := hp
      have hk := Nat.le_of_ble_eq_true hk
      obtain ⟨o, ho, hp⟩ := ob_some.1 hp
      obtain ⟨o', ho', hp⟩ := ob_some.1 hp
      cases o' with
      | pr es =>
        cases hp
        obtain ⟨hf, hl⟩ := fz_row hS ho ho' hs hk (es := es) (view_pr es) ⟨by simp [lift], fun i c hc => ⟨c.map .p, by simp [lift, hc], by simp, fun j p hj => ⟨.p p, by simp [hj], fun x hx => by
          cases hx with | p _ _ hx => exact hx.drop keepK_sub⟩⟩⟩
        subst hl
        exact hf.rel hc
      | cells es =>
        obtain ⟨ps, hps, hp⟩ := ob_some.1 hp
        cases hp
        obtain ⟨hf, hl⟩ := fz_row hS ho ho' hs hk (es := ps) (ev := es) rfl ⟨(mapO_some hps).1.symm, fun i c hc => by
          obtain ⟨d, hd, hm⟩ := mapO_back hps hc
          refine ⟨d, hd, (mapO_some hm).1, fun j p hj => ?_⟩
          obtain ⟨v, hv, hq⟩ := mapO_back hm hj
          exact ⟨v, hv, fun x hx => toPV_ok hS n hx hq⟩⟩
        subst hl
        exact hf.rel hc
      | _ => cases hp
    | row0 id s i a =>
      have hp : bf (Nat.ble k id) (ob (getO id objs) fun o => ob (subO o i 0) fun o => Ob.casesOn (motive := fun _ => Option PV) o (fun es => some (.fz es)) (fun es => ob (mapO (mapO (toPV k objs n)) es) fun es => some (.fz es)) (fun _ => none) (fun _ => none) none) none = some p := hp
      rw [bf_some] at hp
      obtain ⟨_, hp⟩ := hp
      obtain ⟨o, ho, hp⟩ := ob_some.1 hp
      obtain ⟨o', ho', hp⟩ := ob_some.1 hp
      obtain ⟨es0, v1, v2, v3⟩ := subO_view ho'
      cases o' with
      | pr es =>
        cases hp
        rw [view_pr] at v2
        have v2 := Option.some.inj v2
        simp [lift] at v2
        subst v2
        exact .fz0 _ _
      | cells es =>
        have v2 := Option.some.inj v2
        simp at v2
        subst v2
        cases hp
        exact .fz0 _ _
      | _ => cases hp
    | agg cs vs hl hv h ih =>
      rw [toPV_agg] at hp
      obtain ⟨ps, hps, hp⟩ := ob_some.1 hp
      cases hp
      refine .agg ps vs ((mapO_some hps).1.symm.trans hl) hv fun i c x hc hx => ?_
      obtain ⟨u, hu, hw⟩ := mapO_back hps hc
      exact ih i u x hu hx _ hw
    | _ => cases hp
theorem dropVL_rec : ∀ a : List AV, AV.rec_1 (motive_1 := fun _ => Option AV) (motive_2 := fun _ => Option (List AV)) (fun v => some (.p v)) (some (.p (.fz []))) (fun es => some (.p (.fz es)))
    (fun id s i n => bf (Nat.blt id k) (some (.row id s i n)) (ob (toPV k objs 12 (.row id s i n)) fun v => some (.p v)))
    (fun id i o => bf (Nat.blt id k) (some (.ptr id i o)) none) (fun es i o => some (.fptr es i o)) (some .nilp) (fun id => bf (Nat.blt id k) (some (.map id)) none) (some .nilm)
    (fun f _ _ a b => ob a fun a => ob b fun b => some (.fn f a b)) (some .nilf) (fun t _ r => ob r fun v => some (.iface t v)) (some .nili) (fun _ r => ob r fun cs => some (mkAgg cs)) (fun _ r => ob r fun cs => some (.tup cs))
    (some []) (fun _ _ a b => ob a fun a => ob b fun b => some (a :: b)) a = mapO (dropV k objs) a
  | [] => rfl
  | v :: l => by
    rw [mapO_cons, ← dropVL_rec l]
    rfl
theorem dropV_fn (f : Nat) (a b : List AV) : dropV k objs (.fn f a b) = ob (mapO (dropV k objs) a) fun a => ob (mapO (dropV k objs) b) fun b => some (.fn f a b) := by rw [← dropVL_rec, ← dropVL_rec]; rfl
theorem dropV_agg (a : List AV) : dropV k objs (.agg a) = ob (mapO (dropV k objs) a) fun a => some (mkAgg a) := by rw [← dropVL_rec]; rfl
theorem dropV_tup (a : List AV) : dropV k objs (.tup a) = ob (mapO (dropV k objs) a) fun a => some (.tup a) := by rw [← dropVL_rec]; rfl
theorem dropV_ok (hS : St objs B G w) {v : AV} {x : Value} (h : AVRel w (Own objs G) G v x) : ∀ {v' : AV}, dropV k objs v = some v' → R w (Own (keepK k objs) G) G (· < k) v' x := by
  have keep : ∀ {v : AV} {x : Value}, AVRel w (Own objs G) G v x → (∀ r ∈ refs v, r < k) → R w (Own (keepK k objs) G) G (· < k) v x := fun h hr => ⟨h.drop keepK_sub, hr⟩
  have lists : ∀ {a a' : List AV} {xs : List Value}, a.length = xs.length → (∀ (i : Nat) (v : AV) (x : Value), a[i]? = some v → xs[i]? = some x → ∀ {v' : AV}, dropV k objs v = some v' → R w (Own (keepK k objs) G) G (· < k) v' x) → mapO (dropV k objs) a = some a' →
      RL w (Own (keepK k objs) G) G (· < k) a' xs := fun hl ih ha => ⟨(mapO_some ha).1.symm.trans hl, fun i v' x hv hx => by
    obtain ⟨v, hv', hd⟩ := mapO_back ha hv
    exact ih i v x hv' hx hd⟩
  induction h with
  | p v x h => intro v' hv; cases hv; exact R.p (h.drop keepK_sub)
  | nils => intro v' hv; cases hv; exact R.p (.fz0 _ _)
  | lit es a h => intro v' hv; cases hv; exact R.p (h.drop keepK_sub)
  | row id s i len cap c e hs hc hb hcap =>
    intro v' hv
    have hv : bf (Nat.blt id k) (some (.row id s i len)) (ob (toPV k objs 12 (.row id s i len)) fun v => some (.p v)) = some v' := hv
    cases hlt : Nat.blt id k with
    | true =>
      rw [hlt] at hv
      cases hv
      exact keep (.row id s i len cap c e hs hc hb hcap) fun r hr => by
        simp at hr
        subst hr
        exact bltT.1 hlt
    | false =>
      rw [hlt] at hv
      obtain ⟨p, hp, hv⟩ := ob_some.1 hv
      cases hv
      exact R.p (toPV_ok hS 12 (.row id s i len cap c e hs hc hb hcap) hp)
  | row0 id s i a =>
    intro v' hv
    have hv : bf (Nat.blt id k) (some (.row id s i 0)) (ob (toPV k objs 12 (.row id s i 0)) fun v => some (.p v)) = some v' := hv
    cases hlt : Nat.blt id k with
    | true =>
      rw [hlt] at hv
      cases hv
      exact keep (.row0 id s i a) fun r hr => by
        simp at hr
        subst hr
        exact bltT.1 hlt
    | false =>
      rw [hlt] at hv
      obtain ⟨p, hp, hv⟩ := ob_some.1 hv
      cases hv
      exact R.p (toPV_ok hS 12 (.row0 id s i a) hp)
  | ptr id i off =>
    intro v' hv
    obtain ⟨hlt, hv⟩ := bf_some.1 (show bf (Nat.blt id k) (some (.ptr id i off)) none = some v' from hv)
    cases hv
    exact keep (.ptr id i off) fun r hr => by
      simp at hr
      subst hr
      exact bltT.1 hlt
  | fptr es i off b base s h => intro v' hv; cases hv; exact keep (.fptr es i off b base s h) (by simp)
  | nilp => intro v' hv; cases hv; exact keep .nilp (by simp)
  | map id =>
    intro v' hv
    obtain ⟨hlt, hv⟩ := bf_some.1 (show bf (Nat.blt id k) (some (.map id)) none = some v' from hv)
    cases hv
    exact keep (.map id) fun r hr => by
      simp at hr
      subst hr
      exact bltT.1 hlt
  | nilm => intro v' hv; cases hv; exact keep .nilm (by simp)
  | fn f a b xs ys ha hb h1 h2 ih ik =>
    intro v' hv
    rw [dropV_fn] at hv
    obtain ⟨a', ha', hv⟩ := ob_some.1 hv
    obtain ⟨b', hb', hv⟩ := ob_some.1 hv
    cases hv
    have ka := lists ha (fun i v x e1 e2 v' e3 => ih i v x e1 e2 e3) ha'
    have kb := lists hb (fun i v x e1 e2 v' e3 => ik i v x e1 e2 e3) hb'
    refine ⟨.fn f a' b' xs ys ka.1 kb.1 (fun i v x e1 e2 => (ka.2 i v x e1 e2).1) (fun i v x e1 e2 => (kb.2 i v x e1 e2).1), fun r hr => ?_⟩
    rw [refs_fn, List.mem_append] at hr
    exact hr.elim (ka.below r) (kb.below r)
  | nilf => intro v' hv; cases hv; exact keep .nilf (by simp)
  | iface t v x h ih =>
    intro v' hv
    obtain ⟨u, hu, hv⟩ := ob_some.1 (show (ob (dropV k objs v) fun v => some (.iface t v)) = some v' from hv)
    cases hv
    have := ih hu
    exact ⟨.iface t u x this.1, this.2⟩
  | nili => intro v' hv; cases hv; exact keep .nili (by simp)
  | agg cs vs hl hv h ih =>
    intro v' hv'
    rw [dropV_agg] at hv'
    obtain ⟨a', ha', hv'⟩ := ob_some.1 hv'
    cases hv'
    exact mkAgg_ok (lists hl (fun i v x e1 e2 v' e3 => ih i v x e1 e2 e3) ha') fun x hx => by
      obtain ⟨i, hi⟩ := List.mem_iff_getElem?.1 hx
      exact hv i x hi
  | tup cs vs hl h ih =>
    intro v' hv'
    rw [dropV_tup] at hv'
    obtain ⟨a', ha', hv'⟩ := ob_some.1 hv'
    cases hv'
    have ka := lists hl (fun i v x e1 e2 v' e3 => ih i v x e1 e2 e3) ha'
    exact ⟨.tup a' vs ka.1 fun i v x e1 e2 => (ka.2 i v x e1 e2).1, fun r hr => by rw [refs_tup] at hr; exact ka.below r hr⟩
end
end Go.Ab
namespace Go.Ab
set_option maxRecDepth 8000
set_option linter.unusedVariables false
set_option linter.unusedSimpArgs false
section
variable (β : Nat → Nat)
theorem renL_rec : ∀ a : List AV, AV.rec_1 (motive_1 := fun _ => AV) (motive_2 := fun _ => List AV) .p .nils .lit (fun id s i n => .row (β id) s i n) (fun id i o => .ptr (β id) i o) .fptr .nilp (fun id => .map (β id)) .nilm (fun f _ _ a b => .fn f a b) .nilf (fun t _ r => .iface t r) .nili (fun _ r => .agg r) (fun _ r => .tup r) [] (fun _ _ a b => a :: b) a = a.map (ren β)
  | [] => rfl
  | v :: l => by
    rw [List.map_cons, ← renL_rec l]
    rfl
theorem ren_fn (f : Nat) (a b : List AV) : ren β (.fn f a b) = .fn f (a.map (ren β)) (b.map (ren β)) := by rw [← renL_rec, ← renL_rec]; rfl
theorem ren_agg (a : List AV) : ren β (.agg a) = .agg (a.map (ren β)) := by rw [← renL_rec]; rfl
theorem ren_tup (a : List AV) : ren β (.tup a) = .tup (a.map (ren β)) := by rw [← renL_rec]; rfl
mutual
theorem refs_ren : ∀ v : AV, refs (ren β v) = (refs v).map β
  | .p _ => rfl | .nils => rfl | .lit _ => rfl | .row .. => rfl | .ptr .. => rfl | .fptr .. => rfl | .nilp => rfl | .map _ => rfl | .nilm => rfl | .nilf => rfl | .nili => rfl
  | .iface t v => refs_ren v
  | .fn f a b => by rw [ren_fn, refs_fn, refs_fn, List.map_append, refsL_ren a, refsL_ren b]
  | .agg a => by rw [ren_agg, refs_agg, refs_agg, refsL_ren a]
  | .tup a => by rw [ren_tup, refs_tup, refs_tup, refsL_ren a]
theorem refsL_ren : ∀ l : List AV, refsL (l.map (ren β)) = (refsL l).map β
  | [] => rfl
  | v :: l => by rw [List.map_cons, refsL_cons, refsL_cons, List.map_append, refs_ren v, refsL_ren l]
end
theorem renO_refs (o : Ob) : refsO (renO β o) = (refsO o).map β := by
  cases o with
  | pr es => rfl
  | pmap l => rfl
  | dead => rfl
  | cells es =>
    show refsLL (mapL (mapL (ren β)) es) = (refsLL es).map β
    rw [mapL_eq]
    induction es with
    | nil => rfl
    | cons c es ih => rw [List.map_cons, refsLL_cons, refsLL_cons, List.map_append, ih, mapL_eq, refsL_ren]
  | map l =>
    show refsM (mapL (fun p => (p.1, ren β p.2)) l) = (refsM l).map β
    rw [mapL_eq]
    induction l with
    | nil => rfl
    | cons p l ih => rw [List.map_cons, refsM_cons, refsM_cons, List.map_append, ih, refs_ren]
theorem renO_dead {o : Ob} (h : renO β o = .dead) : o = .dead := by cases o <;> first | rfl | cases h
end
section
variable {P : Program} {objs objs' objs1 objs2 : Objs} {B B' B1 B2 : Nat → Prop} {G G' G1 G2 : Gm} {w w' : World} {β : Nat → Nat} {O : Bl}
theorem AVRel.ren {v : AV} {x : Value} (h : AVRel w O G v x) (hG : ∀ r ∈ refs v, G'.f (β r) = G.f r) : AVRel w O G' (ren β v) x := by
  have lists : ∀ {a : List AV} {xs : List Value}, (∀ (i : Nat) (v : AV) (x : Value), a[i]? = some v → xs[i]? = some x → AVRel w O G' (Ab.ren β v) x) → ∀ (i : Nat) (v : AV) (x : Value), (a.map (Ab.ren β))[i]? = some v → xs[i]? = some x → AVRel w O G' v x := by
    intro a xs h i v x hv hx
    rw [List.getElem?_map, Option.map_eq_some_iff] at hv
    obtain ⟨u, hu, rfl⟩ := hv
    exact h i u x hu hx
  induction h with
  | p v x h => exact .p v x h
  | nils => exact .nils
  | lit es a h => exact .lit es a h
  | row id s i len cap c e hs hc hb hcap =>
    have hg : G' (β id) = G id := hG id (by simp)
    rw [← hg] at hs hb hcap ⊢
    exact .row (β id) s i len cap c e hs hc hb hcap
  | row0 id s i a => exact .row0 (β id) s i a
  | ptr id i off =>
    have hg : G' (β id) = G id := hG id (by simp)
    rw [← hg]
    exact .ptr (β id) i off
  | fptr es i off b base s h => exact .fptr es i off b base s h
  | nilp => exact .nilp
  | map id =>
    have hg : G' (β id) = G id := hG id (by simp)
    rw [← hg]
    exact .map (β id)
  | nilm => exact .nilm
  | fn f a b xs ys ha hb h k ih ik =>
    rw [ren_fn]
    exact .fn f _ _ xs ys (by simpa using ha) (by simpa using hb) (lists fun i v x e1 e2 => ih i v x e1 e2 fun r hr => hG r (by simp [refsL_get e1 hr])) (lists fun i v x e1 e2 => ik i v x e1 e2 fun r hr => hG r (by simp [refsL_get e1 hr]))
  | nilf => exact .nilf
  | iface t v x h ih => exact .iface t _ x (ih hG)
  | nili => exact .nili
  | agg cs vs hl hv h ih =>
    rw [ren_agg]
    exact .agg _ vs (by simpa using hl) hv (lists fun i v x e1 e2 => ih i v x e1 e2 fun r hr => hG r (by simp [refsL_get e1 hr]))
  | tup cs vs hl h ih =>
    rw [ren_tup]
    exact .tup _ vs (by simpa using hl) (lists fun i v x e1 e2 => ih i v x e1 e2 fun r hr => hG r (by simp [refsL_get e1 hr]))
theorem ORel.ren {l : Loc} {o : Ob} (h : ORel w O G l o) (hG : ∀ r ∈ refsO o, G'.f (β r) = G.f r) : ORel w O G' l (renO β o) := by
  have hp : ∀ {v : PV} {x : Value}, AVRel w O G (.p v) x → AVRel w O G' (.p v) x := fun h => h.ren (β := β) (by simp)
  cases o with
  | pr es =>
    obtain ⟨c, e, h1, h2, h3, h4⟩ := h
    refine ⟨c, e, h1, h2, h3, fun i cs hcs => ⟨(h4 i cs hcs).1, fun j v hv => ?_⟩⟩
    obtain ⟨x, k1, k2, k3⟩ := (h4 i cs hcs).2 j v hv
    refine ⟨x, k1, k2, ?_⟩
    simp only [lift, List.getElem?_map, Option.map_eq_some_iff] at hcs
    obtain ⟨c', _, rfl⟩ := hcs
    rw [List.getElem?_map, Option.map_eq_some_iff] at hv
    obtain ⟨p, _, rfl⟩ := hv
    exact hp k3
  | cells es =>
    obtain ⟨c, e, h1, h2, h3, h4⟩ := h
    show Row w O G' l (mapL (mapL (Ab.ren β)) es)
    rw [mapL_eq]
    refine ⟨c, e, h1, h2, by simpa using h3, fun i cs hcs => ?_⟩
    rw [List.getElem?_map, Option.map_eq_some_iff] at hcs
    obtain ⟨c', hc', rfl⟩ := hcs
    rw [mapL_eq]
    refine ⟨by simpa using (h4 i c' hc').1, fun j v hv => ?_⟩
    rw [List.getElem?_map, Option.map_eq_some_iff] at hv
    obtain ⟨u, hu, rfl⟩ := hv
    obtain ⟨x, k1, k2, k3⟩ := (h4 i c' hc').2 j u hu
    exact ⟨x, k1, k2, k3.ren fun r hr => hG r (refsLL_get hc' (refsL_get hu hr))⟩
  | pmap m =>
    obtain ⟨es, ck, h1, h2, h3⟩ := h
    refine ⟨es, ck, h1, h2, fun i k v e hm he => ⟨(h3 i k v e hm he).1, ?_⟩⟩
    have := (h3 i k v e hm he).2
    rw [List.getElem?_map, Option.map_eq_some_iff] at hm
    obtain ⟨q, _, hq⟩ := hm
    cases hq
    exact hp this
  | map m =>
    obtain ⟨es, ck, h1, h2, h3⟩ := h
    show MapAt w O G' l.b (mapL (fun p => (p.1, Ab.ren β p.2)) m)
    rw [mapL_eq]
    refine ⟨es, ck, h1, by simpa using h2, fun i k v e hm he => ?_⟩
    rw [List.getElem?_map, Option.map_eq_some_iff] at hm
    obtain ⟨q, hq, hq'⟩ := hm
    cases hq'
    obtain ⟨k1, k2⟩ := h3 i q.1 q.2 e hq he
    exact ⟨k1, k2.ren fun r hr => hG r (refsM_get hq hr)⟩
  | dead => trivial
/-- A state, numbered anew: of the objects in S. -/
structure Ren (objs1 : Objs) (G1 : Gm) (objs2 : Objs) (B2 : Nat → Prop) (G2 : Gm) (S : Nat → Prop) (β : Nat → Nat) : Prop where
  alive : ∀ id o, Alive objs2 id o → ∃ j o1, S j ∧ Alive objs1 j o1 ∧ id = β j ∧ o = renO β o1
  inj : ∀ i j, S i → S j → β i = β j → i = j
  closed : ∀ j o1, S j → Alive objs1 j o1 → ∀ r ∈ refsO o1, S r
  place : ∀ j, S j → G2.f (β j) = G1.f j
  used : ∀ j, S j → B2 (β j)
  X : ∀ b, G2.X b → Own objs1 G1 b
  apart : ∀ j o1, S j → Alive objs1 j o1 → ¬ G2.X (G1 j).b
  wf : ∀ id o, getO id objs2 = some o → B2 id
theorem Ren.own {S : Nat → Prop} (h : Ren objs1 G1 objs2 B2 G2 S β) {b : Nat} (k : Own objs2 G2 b) : Own objs1 G1 b := by
  rcases k with k | ⟨id, o, h1, h2⟩
  · exact h.X b k
  · obtain ⟨j, o1, hj, ha, rfl, rfl⟩ := h.alive id o h1
    refine .inr ⟨j, o1, ha, ?_⟩
    rw [← h2]
    show (G1.f j).b = (G2.f (β j)).b
    rw [h.place j hj]
theorem Ren.r {S : Nat → Prop} (h : Ren objs1 G1 objs2 B2 G2 S β) {n : Nat → Prop} {v : AV} {x : Value} (k : R w (Own objs1 G1) G1 n v x) (hs : ∀ r ∈ refs v, S r) : R w (Own objs2 G2) G2 B2 (ren β v) x :=
  ⟨(k.1.ren fun r hr => h.place r (hs r hr)).mono (.refl _ _) (fun b _ k => h.own k) fun _ _ => rfl, fun r hr => by
    rw [refs_ren, List.mem_map] at hr
    obtain ⟨r', hr', rfl⟩ := hr
    exact h.used r' (hs r' hr')⟩
theorem Ren.st {S : Nat → Prop} (h : Ren objs1 G1 objs2 B2 G2 S β) (hS : St objs1 B1 G1 w) : St objs2 B2 G2 w where
  lt id o k := by
    obtain ⟨j, o1, hj, ha, rfl, rfl⟩ := h.alive id o k
    refine ⟨h.used j hj, ?_⟩
    show (G2.f (β j)).b < _
    rw [h.place j hj]
    exact (hS.lt j o1 ha).2
  inj id o id' o' k k' he := by
    obtain ⟨j, o1, hj, ha, rfl, rfl⟩ := h.alive id o k
    obtain ⟨j', o1', hj', ha', rfl, rfl⟩ := h.alive id' o' k'
    have he : (G2.f (β j)).b = (G2.f (β j')).b := he
    rw [h.place j hj, h.place j' hj'] at he
    rw [hS.inj j o1 j' o1' ha ha' he]
  rel id o k := by
    obtain ⟨j, o1, hj, ha, rfl, rfl⟩ := h.alive id o k
    show ORel w _ _ (G2.f (β j)) _
    rw [h.place j hj]
    exact ((hS.rel j o1 ha).ren fun r hr => h.place r (h.closed j o1 hj ha r hr)).keep rfl (fun v x _ k => k.mono (.refl _ _) (fun b _ k => h.own k) fun _ _ => rfl) fun p x k => k.mono (.refl _ _) fun b _ k => h.own k
  refs id o k r hr := by
    obtain ⟨j, o1, hj, ha, rfl, rfl⟩ := h.alive id o k
    rw [renO_refs, List.mem_map] at hr
    obtain ⟨r', hr', rfl⟩ := hr
    exact h.used r' (h.closed j o1 hj ha r' hr')
  apart id o k hx := by
    obtain ⟨j, o1, hj, ha, rfl, rfl⟩ := h.alive id o k
    have hx : G2.X (G2.f (β j)).b := hx
    rw [h.place j hj] at hx
    exact h.apart j o1 hj ha hx
  ltX b hx := Own.lt hS (h.X b hx)
  wf := h.wf
/-! ### Positions -/
theorem posN_cons (i j : Nat) (l : List Nat) : posN i (j :: l) = if i = j then 0 else posN i l + 1 := by
  have : posN i (j :: l) = bf (Nat.beq i j) 0 (Nat.succ (posN i l)) := rfl
  rw [this]
  by_cases h : i = j
  · subst h; simp [Nat.beq_refl]
  · have hb : Nat.beq i j = false := by
      cases hb : Nat.beq i j with
      | false => rfl
      | true => exact absurd (Nat.eq_of_beq_eq_true hb) h
    simp [hb, h]
theorem posN_get {i : Nat} : ∀ {l : List Nat}, i ∈ l → posN i l < l.length ∧ l[posN i l]? = some i
  | [], h => by cases h
  | j :: l, h => by
    rw [posN_cons]
    by_cases hij : i = j
    · subst hij; simp
    · have := posN_get (l := l) (by simpa [hij] using h)
      simpa [hij] using this
theorem posN_nodup {l : List Nat} (hn : l.Nodup) {j i : Nat} (h : l[j]? = some i) : posN i l = j := by
  have hi := List.mem_of_getElem? h
  obtain ⟨h1, h2⟩ := posN_get hi
  exact (List.getElem?_inj h1 hn).1 (h2.trans h.symm)
theorem posN_inj {l : List Nat} {i j : Nat} (hi : i ∈ l) (hj : j ∈ l) (h : posN i l = posN j l) : i = j := by
  have h1 := (posN_get hi).2
  have h2 := (posN_get hj).2
  rw [h] at h1
  exact Option.some.inj (h1.symm.trans h2)
/-! ### What is reached -/
theorem close_ok (objs : Objs) : ∀ (n : Nat) (todo acc σ : List Nat), close objs n todo acc = some σ → acc.Nodup → (∀ i ∈ acc, ∀ o, getO i objs = some o → ∀ r ∈ refsO o, r ∈ acc ∨ r ∈ todo) →
    σ.Nodup ∧ (∃ m, σ = acc ++ m ∧ ∀ i ∈ m, ∃ o, getO i objs = some o) ∧ (∀ i ∈ todo, i ∈ σ) ∧ ∀ i ∈ σ, ∀ o, getO i objs = some o → ∀ r ∈ refsO o, r ∈ σ
  | 0, todo, acc, σ, h, _, _ => by cases h
  | n + 1, [], acc, σ, h, hn, hc => by
    cases h
    exact ⟨hn, ⟨[], by simp, by simp⟩, fun i hi => (by cases hi), fun i hi o ho r hr => (hc i hi o ho r hr).resolve_right (by simp)⟩
  | n + 1, i :: todo, acc, σ, h, hn, hc => by
    have h : bf (memN i acc) (close objs n todo acc) (Option.rec (motive := fun _ => Option (List Nat)) none (fun o => close objs n (app todo (refsO o)) (app acc [i])) (getO i objs)) = some σ := h
    cases hm : memN i acc with
    | true =>
      rw [hm] at h
      have hi := (memN_eq i acc).1 hm
      obtain ⟨h1, ⟨m, h2, h2'⟩, h3, h4⟩ := close_ok objs n todo acc σ h hn fun j hj o ho r hr => by
        rcases hc j hj o ho r hr with h | h
        · exact .inl h
        · rcases List.mem_cons.1 h with rfl | h
          · exact .inl hi
          · exact .inr h
      refine ⟨h1, ⟨m, h2, h2'⟩, fun j hj => ?_, h4⟩
      rcases List.mem_cons.1 hj with rfl | hj
      · rw [h2]; exact List.mem_append_left _ hi
      · exact h3 j hj
    | false =>
      rw [hm] at h
      have hi : i ∉ acc := fun h => by rw [(memN_eq i acc).2 h] at hm; cases hm
      have hn' : (acc ++ [i]).Nodup := by
        rw [List.nodup_append]
        exact ⟨hn, by simp, fun a ha b hb => by simp at hb; subst hb; exact fun h => hi (h ▸ ha)⟩
      have fin : ∀ todo', (∃ o, getO i objs = some o) → close objs n todo' (acc ++ [i]) = some σ → (∀ j ∈ todo, j ∈ todo') → (∀ o, getO i objs = some o → ∀ r ∈ refsO o, r ∈ todo') →
          σ.Nodup ∧ (∃ m, σ = acc ++ m ∧ ∀ i ∈ m, ∃ o, getO i objs = some o) ∧ (∀ j ∈ i :: todo, j ∈ σ) ∧ ∀ i ∈ σ, ∀ o, getO i objs = some o → ∀ r ∈ refsO o, r ∈ σ := by
        intro todo' hex h ht hr'
        obtain ⟨h1, ⟨m, h2, h2'⟩, h3, h4⟩ := close_ok objs n todo' (acc ++ [i]) σ h hn' fun j hj o ho r hr => by
          rcases List.mem_append.1 hj with hj | hj
          · rcases hc j hj o ho r hr with h | h
            · exact .inl (List.mem_append_left _ h)
            · rcases List.mem_cons.1 h with rfl | h
              · exact .inl (by simp)
              · exact .inr (ht r h)
          · simp at hj
            subst hj
            exact .inr (hr' o ho r hr)
        refine ⟨h1, ⟨i :: m, by rw [h2]; simp, fun j hj => (List.mem_cons.1 hj).elim (fun e => e ▸ hex) (h2' j)⟩, fun j hj => ?_, h4⟩
        rcases List.mem_cons.1 hj with rfl | hj
        · rw [h2]; simp
        · exact h3 j (ht j hj)
      cases hg : getO i objs with
      | none => rw [hg] at h; cases h
      | some o =>
        rw [hg] at h
        have h : close objs n (app todo (refsO o)) (app acc [i]) = some σ := h
        rw [app_eq, app_eq] at h
        exact fin _ ⟨o, hg⟩ h (fun _ h => List.mem_append_left _ h) fun o' ho r hr => by
          rw [hg] at ho
          cases ho
          exact List.mem_append_right _ hr
theorem close_all (objs : Objs) {p : Nat → Prop} (hp : ∀ i, p i → ∀ o, getO i objs = some o → ∀ r ∈ refsO o, p r) : ∀ (n : Nat) (todo acc σ : List Nat), close objs n todo acc = some σ → (∀ i ∈ todo, p i) → (∀ i ∈ acc, p i) → ∀ i ∈ σ, p i
  | 0, todo, acc, σ, h, _, _ => by cases h
  | n + 1, [], acc, σ, h, h1, h2 => by
    cases h
    exact h2
  | n + 1, i :: todo, acc, σ, h, h1, h2 => by
    have h : bf (memN i acc) (close objs n todo acc) (Option.rec (motive := fun _ => Option (List Nat)) none (fun o => close objs n (app todo (refsO o)) (app acc [i])) (getO i objs)) = some σ := h
    cases hm : memN i acc with
    | true =>
      rw [hm] at h
      exact close_all objs hp n todo acc σ h (fun j hj => h1 j (by simp [hj])) h2
    | false =>
      rw [hm] at h
      cases hg : getO i objs with
      | none => rw [hg] at h; cases h
      | some o =>
        rw [hg] at h
        have h : close objs n (app todo (refsO o)) (app acc [i]) = some σ := h
        rw [app_eq, app_eq] at h
        refine close_all objs hp n _ _ σ h (fun j hj => ?_) fun j hj => ?_
        · rcases List.mem_append.1 hj with hj | hj
          · exact h1 j (by simp [hj])
          · exact hp i (h1 i (by simp)) o hg j hj
        · rcases List.mem_append.1 hj with hj | hj
          · exact h2 j hj
          · simp at hj; subst hj; exact h1 j (by simp)
/-! ### A part of the memory, numbered anew -/
theorem getO_mem {id : Nat} {o : Ob} : ∀ {l : Objs}, getO id l = some o → (id, o) ∈ l
  | [], h => by cases h
  | (i, o') :: l, h => by
    rw [getO_cons] at h
    split at h
    · rename_i e; subst e; cases h; simp
    · exact List.mem_cons_of_mem _ (getO_mem h)
theorem getO_of_mem {id : Nat} {o : Ob} : ∀ {l : Objs}, (id, o) ∈ l → ∃ o', getO id l = some o'
  | (i, o') :: l, h => by
    rw [getO_cons]
    split
    · exact ⟨_, rfl⟩
    · rename_i e
      rcases List.mem_cons.1 h with h | h
      · cases h; exact absurd rfl e
      · exact getO_of_mem h
theorem subM_get {ρ : Nat → Nat} {σ : List Nat} {id : Nat} {o : Ob} (h : getO id (subM objs ρ σ) = some o) : ∃ i ∈ σ, id = ρ i ∧ o = (match getO i objs with | some o => renO ρ o | none => .dead) := by
  have := getO_mem h
  unfold subM at this
  rw [mapL_eq, List.mem_map] at this
  obtain ⟨i, hi, e⟩ := this
  cases e
  refine ⟨i, hi, rfl, ?_⟩
  cases getO i objs <;> rfl
theorem subM_dom {ρ : Nat → Nat} {σ : List Nat} {i : Nat} (h : i ∈ σ) : ∃ o, getO (ρ i) (subM objs ρ σ) = some o := by
  refine getO_of_mem (o := Option.rec (motive := fun _ => Ob) .dead (renO ρ) (getO i objs)) ?_
  unfold subM
  rw [mapL_eq, List.mem_map]
  exact ⟨i, h, rfl⟩
/-- The objects in σ, numbered by their positions. -/
theorem sub_ren {σ : List Nat} (hc : ∀ i ∈ σ, ∀ o, getO i objs = some o → ∀ r ∈ refsO o, r ∈ σ) {X' : Bl} (hX : ∀ b, X' b → Own objs G b) (hap : ∀ i o, i ∈ σ → Alive objs i o → ¬ X' (G i).b) :
    Ren objs G (subM objs (fun i => posN i σ) σ) (· < σ.length) ⟨fun j => G.f (σ.getD j 0), X'⟩ (· ∈ σ) (fun i => posN i σ) where
  alive id o k := by
    obtain ⟨i, hi, rfl, e⟩ := subM_get k.1
    cases hg : getO i objs with
    | none => rw [hg] at e; exact absurd e k.2
    | some o1 =>
      rw [hg] at e
      subst e
      exact ⟨i, o1, hi, ⟨hg, fun e => k.2 (by subst e; rfl)⟩, rfl, rfl⟩
  inj i j hi hj h := posN_inj hi hj h
  closed j o1 hj ha := hc j hj o1 ha.1
  place j hj := by
    show G.f (σ.getD (posN j σ) 0) = _
    rw [List.getD_eq_getElem?_getD, (posN_get hj).2]
    rfl
  used j hj := (posN_get hj).1
  X := hX
  apart j o1 hj ha := hap j o1 hj ha
  wf id o k := by
    obtain ⟨i, hi, rfl, e⟩ := subM_get k
    exact (posN_get hi).1
end
end Go.Ab
namespace Go.Ab
set_option maxRecDepth 8000
set_option linter.unusedVariables false
set_option linter.unusedSimpArgs false
theorem upN_eq : ∀ n, upN n = List.range n
  | 0 => rfl
  | n + 1 => by
    have : upN (n + 1) = app (upN n) [n] := rfl
    rw [this, app_eq, upN_eq n, List.range_succ]
theorem refsOld_mem {k id : Nat} {o : Ob} {r : Nat} (hk : id < k) (hr : r ∈ refsO o) : ∀ {l : Objs}, (id, o) ∈ l → r ∈ refsOld k l
  | p :: l, h => by
    have e : refsOld k (p :: l) = bf (Nat.blt p.1 k) (app (refsO p.2) (refsOld k l)) (refsOld k l) := rfl
    rw [e, app_eq]
    rcases List.mem_cons.1 h with h | h
    · subst h
      rw [bltT.2 hk]
      exact List.mem_append_left _ hr
    · have := refsOld_mem hk hr h
      cases Nat.blt p.1 k
      · exact this
      · exact List.mem_append_right _ this
section
variable {P : Program} {L : Nat} {objs' : Objs} {B' : Nat → Prop} {G G' : Gm} {w w' : World} {M M' : Mem} {v v' : AV} {x : Value} {call : Cll}
def Lt (k : Nat) : Nat → Prop := fun i => i < k
theorem leave_ok {frz : Bool} {nx' : Nat} (hP : Post M.objs (Lt M.next) G w objs' B' G' w') (hg : Grow M.next nx' (Lt M.next) B') (hr : R w' (Own objs' G') G' B' v x) (h : leave frz M.next v ⟨nx', objs'⟩ = some (v', M')) :
    ∃ G'', Post M.objs (Lt M.next) G w M'.objs (Lt M'.next) G'' w' ∧ M.next ≤ M'.next ∧ R w' (Own M'.objs G'') G'' (Lt M'.next) v' x := by
  have hgc : gc M.next v ⟨nx', objs'⟩ = some (v', M') → ∃ G'', Post M.objs (Lt M.next) G w M'.objs (Lt M'.next) G'' w' ∧ M.next ≤ M'.next ∧ R w' (Own M'.objs G'') G'' (Lt M'.next) v' x := by
    intro h
    obtain ⟨σ, hσ, h⟩ := ob_some.1 (show (ob (close objs' 4000 (app (refs v) (refsOld M.next objs')) (upN M.next)) fun σ => some (ren (fun i => posN i σ) v, (⟨len σ, subM objs' (fun i => posN i σ) σ⟩ : Mem))) = some (v', M') from h)
    cases h
    rw [app_eq, upN_eq] at hσ
    obtain ⟨h1, ⟨m, h2, _⟩, h3, h4⟩ := close_ok objs' 4000 _ _ σ hσ List.nodup_range fun i hi o ho r hr => .inr (List.mem_append_right _ (refsOld_mem (List.mem_range.1 hi) hr (getO_mem ho)))
    have hlen : M.next ≤ σ.length := by rw [h2]; simp
    have hR := sub_ren (objs := objs') (G := G') (σ := σ) h4 (X' := G'.X) (fun b hb => .inl hb) fun i o _ ha => hP.st.apart i o ha
    have hn : Lt (len σ) = (· < σ.length) := by rw [len_eq]; rfl
    refine ⟨⟨fun j => G'.f (σ.getD j 0), G'.X⟩, { st := ?_, ev := hP.ev, same := hP.same, next := fun r hr => ?_, agree := fun id hid => ?_, own := fun b hb k => hP.own b hb (hR.own k) }, by rw [len_eq]; exact hlen, ?_⟩
    · rw [hn]; exact hR.st hP.st
    · rw [hn]; exact Nat.lt_of_lt_of_le hr hlen
    · have hid : id < M.next := hid
      have : σ.getD id 0 = id := by
        rw [List.getD_eq_getElem?_getD, h2, List.getElem?_append_left (by simpa using hid), List.getElem?_range hid]
        rfl
      show G'.f (σ.getD id 0) = _
      rw [this]
      exact hP.agree id hid
    · rw [hn]
      exact hR.r hr fun r hr' => h3 r (List.mem_append_left _ hr')
  have h : bf (bf frz (oldOk M.next objs') false) (Option.rec (motive := fun _ => Option (AV × Mem)) (gc M.next v ⟨nx', objs'⟩) (fun v' => some (v', ⟨M.next, keepK M.next objs'⟩)) (dropV M.next objs' v)) (gc M.next v ⟨nx', objs'⟩) = some (v', M') := h
  cases hc : bf frz (oldOk M.next objs') false with
  | false => rw [hc] at h; exact hgc h
  | true =>
    rw [hc] at h
    cases hd : dropV M.next objs' v with
    | none => rw [hd] at h; exact hgc h
    | some u =>
      rw [hd] at h
      cases h
      rw [bf_and, Bool.and_eq_true] at hc
      have hold := hc.2
      have hlt : ∀ {id o}, getO id (keepK M.next objs') = some o → id < M.next := fun {id o} h => by
        rw [keepK_get] at h
        split at h
        · assumption
        · cases h
      have hd' := hP.st.drop (keepK_sub (k := M.next))
      refine ⟨G', { st := { lt := fun id o k => ⟨hlt k.1, (hd'.lt id o k).2⟩, inj := hd'.inj, rel := hd'.rel, refs := fun id o k r hr => ?_, apart := hd'.apart, ltX := hd'.ltX, wf := fun id o k => hlt k }, ev := hP.ev, same := hP.same, next := fun r hr => hr, agree := hP.agree, own := fun b hb k => hP.own b hb (keepK_sub.own k) }, Nat.le_refl _, dropV_ok hP.st hr.1 hd⟩
      have hm := getO_mem (keepK_sub _ _ k.1)
      unfold oldOk at hold
      rw [allL_eq, List.all_eq_true] at hold
      have := hold _ hm
      simp only at this
      rw [bltT.2 (hlt k.1), bf_true, allL_eq, List.all_eq_true] at this
      exact bltT.1 (this r hr)
/-- What is shown of a function's run in a memory of its own. -/
def RunOk (P : Program) (f : Nat) (vs : List AV) (M : Mem) (r : Rs) (M' : Mem) : Prop :=
  ∀ (G : Gm) (w : World) (xs : List Value), St M.objs (Lt M.next) G w → RL w (Own M.objs G) G (Lt M.next) vs xs →
    Known P f ∧ Calls P f ⟨xs⟩ w fun e w' => ∃ G', Post M.objs (Lt M.next) G w M'.objs (Lt M'.next) G' w' ∧ M.next ≤ M'.next ∧ EndOk r e (R w' (Own M'.objs G') G' (Lt M'.next))
theorem Lt.free {k : Nat} : Free k (Lt k) := fun i hi h => Nat.lt_irrefl _ (Nat.lt_of_lt_of_le h hi)
theorem evFun_ok (hfollow : P.follows .mixedOrders = true) (hcall : CllOk P call) {f n : Nat} {frz : Bool} {fn : Func} {cf : CFunc} {vs : List AV} {r : Rs} (hf : P.funcs[f]? = some fn) (hc : cFunc P L fn = some cf) (h : evFun call n frz cf vs M = some (r, M')) : RunOk P f vs M r M' := by
  intro G w xs hS hRL
  unfold cFunc at hc
  split at hc <;> try (cases hc; done)
  rename_i c hbody
  simp only at hc
  split at hc <;> try (cases hc; done)
  rename_i hcond
  split at hc <;> try (cases hc; done)
  rename_i rs hrs
  cases hc
  simp only [Bool.and_eq_true, decide_eq_true_eq, bne_iff_ne] at hcond
  obtain ⟨⟨hdst, hnp⟩, hname⟩ := hcond
  generalize hts : (olds c ++ fn.results.toList.map fun r => match r with | ResultVar.tmp t => t | ResultVar.cell t _ => t) = ts at h hrs
  unfold evFun at h
  rw [bf_some] at h
  obtain ⟨hle, h⟩ := h
  have hle := Nat.le_of_ble_eq_true hle
  rw [len_eq] at hle
  simp only at hle h
  obtain ⟨⟨ex, fr', M1⟩, hev, h⟩ := ob_some.1 h
  have hst := start_ok (ts := ts) hRL hle hnp
  have hsz : ((⟨xs⟩ : Array Value) ++ Array.replicate (fn.ntmps - xs.length) undef).size = fn.ntmps := by
    have := hRL.1
    simp
    omega
  have hwp := code_ok (P := P) (L := L) (N := ⟨fn.ntmps, fun _ => false, #[]⟩) (ds := []) (M0 := M) (B0 := Lt M.next) (G0 := G) (w0 := w) hfollow hcall Lt.free n c _ M _ (Lt M.next) G _ w (dstsT_ok _ _ hdst) hev (.refl hS) .refl hst ⟨hsz, fun _ h => by cases h⟩ rfl
  refine ⟨⟨fn, hf, by simpa using hname, by rw [hbody]; rfl⟩, calls_of_wp hf hbody (wp_mono hwp fun e a w' hq => ?_)⟩
  obtain ⟨B1, G1, h1, h2, h3, h4, h5, h6⟩ := hq
  have fin : (ob (evRes rs fr' M1.objs) fun vs => ob (leave frz M.next (resV vs) M1) fun x => some (.ret x.1, x.2)) = some (r, M') → FrOk (ts.foldl (fun l t => addN t l) (List.range (fn.params.size + fn.nfree))) fr' a w' (Own M1.objs G1) G1 B1 →
      a.defers = [] ∧ ∃ v, (results fn a.tmps).run P w' = .ok v w' ∧ ∃ G', Post M.objs (Lt M.next) G w M'.objs (Lt M'.next) G' w' ∧ M.next ≤ M'.next ∧ EndOk r (.returned v) (R w' (Own M'.objs G') G' (Lt M'.next)) := by
    intro h hfr
    obtain ⟨us, hus, h⟩ := ob_some.1 h
    obtain ⟨⟨v', M2⟩, hl, h⟩ := ob_some.1 h
    cases h
    obtain ⟨x, hx, hr⟩ := results_ok h1.st hfr hrs hus
    obtain ⟨G2, k1, k2, k3⟩ := leave_ok h1 h2 hr hl
    exact ⟨h6, x, hx, G2, k1, k2, ⟨x, rfl, k3⟩⟩
  cases ex with
  | normal =>
    have h3 : e = .normal := h3
    subst h3
    exact fin h (h4 rfl)
  | exit i => cases h
  | ret =>
    have h3 : e = .ret := h3
    subst h3
    exact fin h (h4 rfl)
  | pan v =>
    obtain ⟨y, rfl, hy⟩ := h3
    obtain ⟨⟨v', M2⟩, hl, h⟩ := ob_some.1 (show (ob (leave true M.next v M1) fun x => some (Rs.pan x.1, x.2)) = some (r, M') from h)
    cases h
    obtain ⟨G2, k1, k2, k3⟩ := leave_ok h1 h2 hy hl
    exact ⟨h6, G2, k1, k2, ⟨y, rfl, k3⟩⟩
end
end Go.Ab
namespace Go.Ab
set_option maxRecDepth 8000
set_option linter.unusedVariables false
set_option linter.unusedSimpArgs false
noncomputable def betaN (nx : Nat) (σ : List Nat) (j : Nat) : Nat := bf (Nat.blt j (len σ)) (Option.rec (motive := fun _ => Nat) 0 (fun i => i) (nth σ j)) (nx + (j - len σ))
theorem betaN_lt {nx j i : Nat} {σ : List Nat} (h : σ[j]? = some i) : betaN nx σ j = i := by
  have hlt := (List.getElem?_eq_some_iff.1 h).1
  unfold betaN
  rw [len_eq, bltT.2 hlt, bf_true, nth_eq, h]
theorem betaN_ge {nx j : Nat} {σ : List Nat} (h : σ.length ≤ j) : betaN nx σ j = nx + (j - σ.length) := by
  unfold betaN
  rw [len_eq, bltF.2 h, bf_false]
theorem iso_eq {run : List AV → Mem → Option (Rs × Mem)} {args : List AV} {M : Mem} {q : Rs × Mem} (h : iso run args M = some q) : ∃ σ r, reach M.objs args = some σ ∧ run (args.map (ren fun i => posN i σ)) ⟨σ.length, subM M.objs (fun i => posN i σ) σ⟩ = some r ∧
    q = (renR (betaN M.next σ) r.1, ⟨M.next + (r.2.next - σ.length), backM (betaN M.next σ) σ r.2.objs M.objs⟩) := by
  obtain ⟨σ, hσ, h⟩ := ob_some.1 (show (ob (reach M.objs args) fun σ => ob (run (mapL (ren fun i => posN i σ) args) ⟨len σ, subM M.objs (fun i => posN i σ) σ⟩) fun r => some (renR (betaN M.next σ) r.1, (⟨M.next + (r.2.next - len σ), backM (betaN M.next σ) σ r.2.objs M.objs⟩ : Mem))) = some q from h)
  obtain ⟨r, hr, h⟩ := ob_some.1 h
  rw [mapL_eq, len_eq] at hr
  rw [len_eq] at h
  exact ⟨σ, r, hσ, hr, (Option.some.inj h).symm⟩
theorem backM_eq (β : Nat → Nat) (σ : List Nat) (l objs : Objs) : backM β σ l objs = l.map (fun p => (β p.1, renO β p.2)) ++ objs.filter (fun p => !memN p.1 σ) := by
  have : ∀ objs : Objs, List.rec (motive := fun _ => Objs) [] (fun p _ ih => bf (memN p.1 σ) ih (p :: ih)) objs = objs.filter (fun p => !memN p.1 σ) := by
    intro objs
    induction objs with
    | nil => rfl
    | cons p objs ih =>
      show bf (memN p.1 σ) _ _ = _
      rw [ih, List.filter_cons]
      cases memN p.1 σ <;> rfl
  unfold backM
  rw [app_eq, mapL_eq, this]
theorem filt_get {σ : List Nat} {id : Nat} {objs : Objs} : getO id (objs.filter (fun p => !memN p.1 σ)) = if id ∈ σ then none else getO id objs := by
  rw [getO_filter id (fun i => !memN i σ)]
  cases hm : memN id σ with
  | true => simp [(memN_eq id σ).1 hm]
  | false =>
    have : id ∉ σ := fun h => by rw [(memN_eq id σ).2 h] at hm; cases hm
    simp [this]
theorem map_get {β : Nat → Nat} {id : Nat} {o : Ob} {l : Objs} (h : getO id (l.map fun p => (β p.1, renO β p.2)) = some o) : ∃ j o1, getO j l = some o1 ∧ id = β j ∧ o = renO β o1 := by
  induction l with
  | nil => cases h
  | cons p l ih =>
    obtain ⟨i, o'⟩ := p
    rw [List.map_cons, getO_cons] at h
    split at h
    · cases h
      exact ⟨i, o', by rw [getO_cons, if_pos rfl], ‹_›, rfl⟩
    · rename_i hne
      obtain ⟨j, o1, h1, h2, h3⟩ := ih h
      refine ⟨j, o1, ?_, h2, h3⟩
      rw [getO_cons, if_neg, h1]
      rintro rfl
      exact hne h2
section
variable {P : Program} {M M' : Mem} {f : Nat} {args : List AV} {r : Rs} {run : List AV → Mem → Option (Rs × Mem)}
theorem iso_ok (hrun : ∀ vs M r M', run vs M = some (r, M') → RunOk P f vs M r M') (h : iso run args M = some (r, M')) : CallOk P f args M r M' := by
  intro B G w xs hS hF hRL
  obtain ⟨σ, ⟨r1, M1⟩, hσ, hr, hq⟩ := iso_eq h
  cases hq
  obtain ⟨hnd, ⟨m, hm, hex⟩, htodo, hclosed⟩ := close_ok M.objs 4000 _ _ σ hσ List.nodup_nil (by simp)
  rw [List.nil_append] at hm
  subst hm
  have hinB : ∀ i ∈ σ, B i := close_all M.objs (p := B) (fun i _ o ho r hr => by
    by_cases hd : o = .dead
    · subst hd; cases hr
    · exact hS.refs i o ⟨ho, hd⟩ r hr) 4000 _ _ σ hσ (fun i hi => hRL.below i hi) (by simp)
  have hlt : ∀ {i}, B i → i < M.next := fun {i} hb => Nat.lt_of_not_le fun h => hF i h hb
  -- the part
  have hpg : ∀ id, getO id (M.objs.filter fun p => memN p.1 σ) = if id ∈ σ then getO id M.objs else none := by
    intro id
    rw [getO_filter id (fun i => memN i σ)]
    cases hm : memN id σ with
    | true => simp [(memN_eq id σ).1 hm]
    | false =>
      have : id ∉ σ := fun h => by rw [(memN_eq id σ).2 h] at hm; cases hm
      simp [this]
  generalize hop : (M.objs.filter fun p => memN p.1 σ) = op at hpg
  have hsub : Sub op M.objs := fun id o ho => by
    rw [hpg] at ho
    split at ho
    · exact ho
    · cases ho
  have hsp := hS.split hsub
  have hsubM : subM op (fun i => posN i σ) σ = subM M.objs (fun i => posN i σ) σ := by
    unfold subM
    rw [mapL_eq, mapL_eq]
    refine List.map_congr_left fun i hi => ?_
    rw [hpg, if_pos hi]
  have hcl' : ∀ i ∈ σ, ∀ o, getO i op = some o → ∀ r ∈ refsO o, r ∈ σ := fun i hi o ho => hclosed i hi o (hsub i o ho)
  have hR1 := sub_ren (objs := op) (G := partG op M.objs G) (σ := σ) hcl' (X' := (partG op M.objs G).X) (fun b hb => .inl hb) fun i o _ ha => hsp.apart i o ha
  rw [hsubM] at hR1
  have hS1 := hR1.st hsp
  have hargs : RL w (Own (subM M.objs (fun i => posN i σ) σ) ⟨fun j => (partG op M.objs G).f (σ.getD j 0), (partG op M.objs G).X⟩) ⟨fun j => (partG op M.objs G).f (σ.getD j 0), (partG op M.objs G).X⟩ (Lt σ.length) (args.map (ren fun i => posN i σ)) xs := by
    refine ⟨by simpa using hRL.1, fun i v x hv hx => ?_⟩
    rw [List.getElem?_map, Option.map_eq_some_iff] at hv
    obtain ⟨u, hu, rfl⟩ := hv
    have := hRL.2 i u x hu hx
    have h2 : R w (Own op (partG op M.objs G)) (partG op M.objs G) B u x := by
      rw [part_own hsub]
      exact this.gm rfl
    exact hR1.r h2 fun r hr => htodo r (refsL_get hu hr)
  obtain ⟨hk, hC⟩ := hrun _ _ _ _ hr _ w xs hS1 hargs
  refine ⟨hk, hC.mono fun e w' => ?_⟩
  rintro ⟨G1, hP1, hle, hE⟩
  simp only at hP1 hle hE ⊢
  -- back
  have hβ1 : ∀ {j}, j < σ.length → ∃ i, σ[j]? = some i ∧ betaN M.next σ j = i ∧ B i := fun {j} hj => ⟨_, List.getElem?_eq_getElem hj, betaN_lt (List.getElem?_eq_getElem hj), hinB _ (List.getElem_mem hj)⟩
  have hX1 : G1.X = (partG op M.objs G).X := hP1.same
  let G2 : Gm := ⟨fun i => if M.next ≤ i then G1.f (σ.length + (i - M.next)) else G.f i, (partG op M.objs G).X⟩
  let B2 : Nat → Prop := fun i => B i ∨ (M.next ≤ i ∧ i < M.next + (M1.next - σ.length))
  let ob2 : Objs := M1.objs.map fun p => (betaN M.next σ p.1, renO (betaN M.next σ) p.2)
  have hplace : ∀ j, j < M1.next → G2.f (betaN M.next σ j) = G1.f j := by
    intro j hj
    by_cases hjl : j < σ.length
    · obtain ⟨i, h1, h2, h3⟩ := hβ1 hjl
      rw [h2]
      show (if M.next ≤ i then _ else G.f i) = _
      rw [if_neg (by have := hlt h3; omega)]
      have := hP1.agree j hjl
      have h4 : G1.f j = G.f (σ.getD j 0) := this
      rw [h4, List.getD_eq_getElem?_getD, h1]
      rfl
    · rw [betaN_ge (by omega)]
      show (if M.next ≤ M.next + (j - σ.length) then _ else _) = _
      rw [if_pos (by omega)]
      congr 1
      omega
  have hinj : ∀ i j, i < M1.next → j < M1.next → betaN M.next σ i = betaN M.next σ j → i = j := by
    intro i j hi hj he
    by_cases hil : i < σ.length <;> by_cases hjl : j < σ.length
    · obtain ⟨a, h1, h2, _⟩ := hβ1 hil
      obtain ⟨b, h3, h4, _⟩ := hβ1 hjl
      rw [h2, h4] at he
      subst he
      exact (posN_nodup hnd h1).symm.trans (posN_nodup hnd h3)
    · obtain ⟨a, h1, h2, h3⟩ := hβ1 hil
      rw [h2, betaN_ge (by omega)] at he
      have := hlt h3
      omega
    · obtain ⟨a, h1, h2, h3⟩ := hβ1 hjl
      rw [h2, betaN_ge (by omega)] at he
      have := hlt h3
      omega
    · rw [betaN_ge (by omega), betaN_ge (by omega)] at he
      omega
  have hused : ∀ j, j < M1.next → B2 (betaN M.next σ j) := by
    intro j hj
    by_cases hjl : j < σ.length
    · obtain ⟨i, h1, h2, h3⟩ := hβ1 hjl
      rw [h2]
      exact .inl h3
    · rw [betaN_ge (by omega)]
      exact .inr ⟨by omega, by omega⟩
  have hR2 : Ren M1.objs G1 ob2 B2 G2 (Lt M1.next) (betaN M.next σ) := {
    alive := fun id o k => by
      obtain ⟨j, o1, h1, h2, h3⟩ := map_get k.1
      exact ⟨j, o1, hP1.st.wf j o1 h1, ⟨h1, fun e => k.2 (by rw [h3, e]; rfl)⟩, h2, h3⟩
    inj := hinj
    closed := fun j o1 _ ha r hr => hP1.st.refs j o1 ha r hr
    place := hplace
    used := hused
    X := fun b hb => .inl (by rw [hX1]; exact hb)
    apart := fun j o1 _ ha hx => hP1.st.apart j o1 ha (by rw [hX1]; exact hx)
    wf := fun id o k => by
      obtain ⟨j, o1, h1, h2, h3⟩ := map_get k
      rw [h2]
      exact hused j (hP1.st.wf j o1 h1) }
  have hP2 : Post op B (partG op M.objs G) w ob2 B2 G2 w' := {
    st := hR2.st hP1.st
    ev := hP1.ev.mono fun b hb => by
      obtain ⟨id, o, h1, h2⟩ := hb
      obtain ⟨j, o1, hj, ha, rfl, rfl⟩ := hR1.alive id o h1
      refine ⟨j, o1, ha, ?_⟩
      rw [← h2]
      show ((partG op M.objs G).f j).b = ((partG op M.objs G).f (σ.getD (posN j σ) 0)).b
      rw [List.getD_eq_getElem?_getD, (posN_get hj).2]
      rfl
    same := rfl
    next := fun i hi => .inl hi
    agree := fun id hid => by
      show (if M.next ≤ id then _ else G.f id) = _
      rw [if_neg (by have := hlt hid; omega)]
      rfl
    own := fun b hb k => hR1.own (hP1.own b hb (hR2.own k)) }
  obtain ⟨hJ, hO⟩ := hP2.join hS hsub fun id hb hn => by
    cases hg : getO id ob2 with
    | none => rfl
    | some o =>
      exfalso
      obtain ⟨j, o1, h1, h2, h3⟩ := map_get hg
      have hj : j < M1.next := hP1.st.wf j o1 h1
      by_cases hjl : j < σ.length
      · obtain ⟨i, k1, k2, k3⟩ := hβ1 hjl
        rw [k2] at h2
        subst h2
        have hi := List.mem_of_getElem? k1
        rw [hpg, if_pos hi] at hn
        obtain ⟨o', ho'⟩ := hex id hi
        rw [hn] at ho'
        cases ho'
      · rw [betaN_ge (by omega)] at h2
        have := hlt hb
        omega
  have hsubF : Sub (backM (betaN M.next σ) σ M1.objs M.objs) (joinO op M.objs ob2) := by
    intro id o ho
    rw [backM_eq, getO_append, filt_get] at ho
    rw [getO_join]
    show (getO id (M1.objs.map fun p => (betaN M.next σ p.1, renO (betaN M.next σ) p.2))).or _ = _
    cases hg : getO id (M1.objs.map fun p => (betaN M.next σ p.1, renO (betaN M.next σ) p.2)) with
    | some o' => rw [hg] at ho; exact ho
    | none =>
      rw [hg] at ho
      rw [hpg]
      by_cases hi : id ∈ σ
      · rw [if_pos hi] at ho; cases ho
      · rw [if_neg hi] at ho
        rw [if_neg hi]
        exact ho
  have hJ' := hJ.drop hsubF
  have hval : ∀ {v x}, R w' (Own M1.objs G1) G1 (Lt M1.next) v x → R w' (Own (backM (betaN M.next σ) σ M1.objs M.objs) ⟨G2.f, G.X⟩) ⟨G2.f, G.X⟩ B2 (ren (betaN M.next σ) v) x := by
    intro v x k
    have h1 := hR2.r k fun r hr => k.2 r hr
    have h2 : R w' (Own (joinO op M.objs ob2) ⟨G2.f, G.X⟩) ⟨G2.f, G.X⟩ B2 (ren (betaN M.next σ) v) x := by
      rw [hO]
      exact h1.gm rfl
    exact h2.drop hsubF
  refine ⟨B2, ⟨G2.f, G.X⟩, hJ', ⟨by simp, fun i hi => hi⟩, ?_⟩
  cases r1 with
  | ret v =>
    obtain ⟨x, rfl, hx⟩ := hE
    exact ⟨x, rfl, hval hx⟩
  | pan v =>
    obtain ⟨x, rfl, hx⟩ := hE
    exact ⟨x, rfl, hval hx⟩
end
end Go.Ab
namespace Go.Ab
set_option maxRecDepth 8000
set_option linter.unusedVariables false
set_option linter.unusedSimpArgs false
section
variable {P : Program} {M M' : Mem} {f : Nat} {args : List AV} {r : Rs} {run : List AV → Mem → Option (Rs × Mem)}
theorem iso_frm (h : iso run args M = some (r, M')) {t : Bool} {tch : List Nat} (ht : t = true → ∀ σ, reach M.objs args = some σ → ∀ i ∈ σ, i ∈ tch) : Frm t tch M M' := by
  obtain ⟨σ, ⟨r1, M1⟩, hσ, hr, hq⟩ := iso_eq h
  cases hq
  obtain ⟨hnd, ⟨m, hm, hex⟩, htodo, hclosed⟩ := close_ok M.objs 4000 _ _ σ hσ List.nodup_nil (by simp)
  rw [List.nil_append] at hm
  subst hm
  have hnone : ∀ id, id < M.next → id ∉ σ → getO id (M1.objs.map fun p => (betaN M.next σ p.1, renO (betaN M.next σ) p.2)) = none := by
    intro id hid hs
    cases hg : getO id (M1.objs.map fun p => (betaN M.next σ p.1, renO (betaN M.next σ) p.2)) with
    | none => rfl
    | some o =>
      exfalso
      obtain ⟨j, o1, h1, h2, h3⟩ := map_get hg
      by_cases hjl : j < σ.length
      · have h4 := List.getElem?_eq_getElem hjl
        rw [betaN_lt h4] at h2
        exact hs (h2 ▸ List.getElem_mem hjl)
      · rw [betaN_ge (by omega)] at h2
        omega
  refine ⟨fun htt id o ho hid hn => ?_, fun id hid hn => ?_⟩
  · have hs : id ∉ σ := fun hs => hn (ht htt σ hσ id hs)
    show getO id (backM _ _ _ _) = _
    rw [backM_eq, getO_append, hnone id hid hs, filt_get, if_neg hs]
    exact ho
  · have hs : id ∉ σ := fun hs => by
      obtain ⟨o, ho⟩ := hex id hs
      rw [hn] at ho
      cases ho
    show getO id (backM _ _ _ _) = _
    rw [backM_eq, getO_append, hnone id hid hs, filt_get, if_neg hs]
    exact hn
/-! ### Arguments made weaker -/
theorem weakA_eq (v : AV) : weakA v = match weak v with | some p => .p p | none => v := by
  unfold weakA
  cases weak v <;> rfl
theorem weakA_ok {w : World} {O : Bl} {G : Gm} {n : Nat → Prop} {v : AV} {x : Value} (h : R w O G n v x) : R w O G n (weakA v) x := by
  rw [weakA_eq]
  split
  · exact R.p (weak_ok h.1 ‹_›)
  · exact h
theorem weakA_refs {v : AV} {r : Nat} (h : r ∈ refs (weakA v)) : r ∈ refs v := by
  rw [weakA_eq] at h
  split at h
  · simp at h
  · exact h
theorem CallOk.weak (h : CallOk P f (args.map weakA) M r M') : CallOk P f args M r M' := fun B G w xs hS hF hR => h B G w xs hS hF ⟨by simpa using hR.1, fun i v x hv hx => by
  rw [List.getElem?_map, Option.map_eq_some_iff] at hv
  obtain ⟨u, hu, rfl⟩ := hv
  exact weakA_ok (hR.2 i u x hu hx)⟩
theorem reach_weak {σ σ' : List Nat} (h : reach M.objs args = some σ) (h' : reach M.objs (args.map weakA) = some σ') : ∀ i ∈ σ', i ∈ σ := by
  obtain ⟨hnd, _, htodo, hclosed⟩ := close_ok M.objs 4000 _ _ σ h List.nodup_nil (by simp)
  refine close_all M.objs (p := (· ∈ σ)) (fun i hi o ho r hr => hclosed i hi o ho r hr) 4000 _ _ σ' h' (fun i hi => ?_) (by simp)
  rw [refsL_mem] at hi
  obtain ⟨v, hv, hi⟩ := hi
  obtain ⟨u, hu, rfl⟩ := List.mem_map.1 hv
  exact htodo i (refsL_mem.2 ⟨u, hu, weakA_refs hi⟩)
/-! ### Calls by value -/
theorem scalar_ok {w w' : World} {O O' : Bl} {v : PV} {x : Value} (hs : scalar v = true) (h : PRel w O v x) : PRel w' O' v x := by
  cases h with
  | bool b => exact .bool b
  | int k n => exact .int k n
  | str s b h => exact .str s b h
  | fz0 a cap => cases hs
  | fz es b base s cap f hb hn hc hs' hw hv hr => cases hs
  | agg cs vs hl hv h =>
    have hs : allL (fun c => PV.casesOn (motive_1 := fun _ => Bool) c (fun _ => true) (fun _ _ => true) (fun _ => true) (fun _ => false) (fun _ => false)) cs = true := hs
    rw [allL_eq, List.all_eq_true] at hs
    refine .agg cs vs hl hv fun i c x hc hx => ?_
    have hk := hs c (List.mem_of_getElem? hc)
    have := h i c x hc hx
    cases this with
    | bool b => exact .bool b
    | int k n => exact .int k n
    | str s b h => exact .str s b h
    | _ => cases hk
theorem scalarA_ok {w w' : World} {O O' : Bl} {G G' : Gm} {n n' : Nat → Prop} {v : AV} {x : Value} (hs : scalarA v = true) (h : R w O G n v x) : R w' O' G' n' v x := by
  obtain ⟨h, _⟩ := h
  have one : ∀ {v : AV} {x : Value}, Option.rec (motive := fun _ => Bool) false scalar (asP v) = true → AVRel w O G v x → R w' O' G' n' v x := by
    intro v x hv h
    cases h with
    | p q y hq => exact R.p (scalar_ok hv hq)
    | _ => cases hv
  cases h with
  | p q y hq => exact R.p (scalar_ok hs hq)
  | tup cs vs hl h =>
    have hs : allL (fun v => Option.rec (motive := fun _ => Bool) false scalar (asP v)) cs = true := hs
    rw [allL_eq, List.all_eq_true] at hs
    have key : ∀ (i : Nat) (c : AV) (x : Value), cs[i]? = some c → vs[i]? = some x → R w' O' G' n' c x := fun i c x hc hx => one (hs c (List.mem_of_getElem? hc)) (h i c x hc hx)
    refine ⟨.tup cs vs hl fun i c x hc hx => (key i c x hc hx).1, fun r hr => ?_⟩
    rw [refs_tup] at hr
    exact RL.below (w := w') (O := O') (G := G') (xs := vs) ⟨hl, key⟩ r hr
  | _ => cases hs
theorem keep_zero (l : Objs) : keepK 0 l = [] := by
  induction l with
  | nil => rfl
  | cons p l ih =>
    have : keepK 0 (p :: l) = bf (Nat.blt p.1 0) (p :: keepK 0 l) (keepK 0 l) := rfl
    rw [this, bltF.2 (Nat.zero_le _)]
    exact ih
theorem pure_ok' (hrun : ∀ vs M r M', run vs M = some (r, M') → RunOk P f vs M r M') (h : pureCall run args M = some (r, M')) : M' = M ∧ CallOk P f args M r M' := by
  obtain ⟨ps, hps, h⟩ := ob_some.1 (show (ob (mapO (toPV 0 M.objs 12) args) fun ps => ob (run (mapL .p ps) ⟨0, []⟩) fun r => Rs.casesOn (motive := fun _ => Option (Rs × Mem)) r.1 (fun v => bf (scalarA v) (some (.ret v, M)) none) (fun _ => none)) = some (r, M') from h)
  obtain ⟨⟨r1, M1⟩, hr, h⟩ := ob_some.1 h
  rw [mapL_eq] at hr
  cases r1 with
  | pan v => cases h
  | ret v =>
    obtain ⟨hsc, h⟩ := bf_some.1 (show bf (scalarA v) (some (Rs.ret v, M)) none = some (r, M') from h)
    cases h
    refine ⟨rfl, fun B G w xs hS hF hRL => ?_⟩
    have hS0 : St [] (Lt 0) G w := { lt := fun _ _ h => (by cases h.1), inj := fun _ _ _ _ h => (by cases h.1), rel := fun _ _ h => (by cases h.1), refs := fun _ _ h => (by cases h.1), apart := fun _ _ h => (by cases h.1), ltX := hS.ltX, wf := fun _ _ h => (by cases h) }
    have hargs : RL w (Own [] G) G (Lt 0) (ps.map .p) xs := by
      refine ⟨by rw [List.length_map, ← (mapO_some hps).1]; exact hRL.1, fun i v x hv hx => ?_⟩
      rw [List.getElem?_map, Option.map_eq_some_iff] at hv
      obtain ⟨p, hp, rfl⟩ := hv
      obtain ⟨u, hu, hq⟩ := mapO_back hps hp
      have := toPV_ok (k := 0) hS 12 (hRL.2 i u x hu hx).1 hq
      rw [keep_zero] at this
      exact R.p this
    obtain ⟨hk, hC⟩ := hrun _ ⟨0, []⟩ _ _ hr G w xs hS0 hargs
    refine ⟨hk, hC.mono fun e w' => ?_⟩
    rintro ⟨G1, hP, _, x, rfl, hx⟩
    have hE : Ev (fun _ => False) w w' := hP.ev.mono fun b hb => by
      obtain ⟨_, _, h, _⟩ := hb
      cases h.1
    exact ⟨B, G, Post.free hS hE, .refl, x, rfl, scalarA_ok hsc hx⟩
theorem getO_fst {id : Nat} {o : Ob} : ∀ {l : Objs}, getO id l = some o → id ∈ l.map Prod.fst
  | [], h => by cases h
  | p :: l, h => by
    rw [getO_cons] at h
    split at h
    · rename_i he; simp [he]
    · exact List.mem_cons_of_mem _ (getO_fst h)
theorem getO_fst_ne {id : Nat} : ∀ {l : Objs}, id ∈ l.map Prod.fst → getO id l ≠ none
  | p :: l, h => by
    rw [getO_cons]
    split
    · simp
    · rename_i he
      exact getO_fst_ne ((List.mem_cons.1 h).resolve_left he)
theorem mask_bit {i : Nat} : ∀ {l : Objs}, (maskO l).testBit i = true → i ∈ l.map Prod.fst
  | [], h => by simp [maskO] at h
  | p :: l, h => by
    have h : ((maskO l) ||| (1 <<< p.1)).testBit i = true := h
    rw [Nat.testBit_or, Bool.or_eq_true] at h
    rcases h with h | h
    · exact List.mem_cons_of_mem _ (mask_bit h)
    · rw [Nat.one_shiftLeft, Nat.testBit_two_pow] at h
      have : p.1 = i := of_decide_eq_true h
      simp [this]
theorem dense_some {M : Mem} (h : dense M = true) {i : Nat} (hi : i < M.next) : getO i M.objs ≠ none := by
  have h := Nat.eq_of_beq_eq_true (show Nat.beq (maskO M.objs) (Nat.sub (Nat.shiftLeft 1 M.next) 1) = true from h)
  refine getO_fst_ne (mask_bit ?_)
  rw [h]
  show ((1 <<< M.next) - 1).testBit i = true
  rw [Nat.one_shiftLeft, Nat.testBit_two_pow_sub_one]
  simpa using hi
theorem plain_ok {P : Program} {f : Nat} {args : List AV} {M M' : Mem} {r : Rs} (hd : dense M = true) (h : RunOk P f args M r M') : CallOk P f args M r M' := by
  intro B G w xs hS hF hR
  have hB : B = Lt M.next := by
    funext i
    refine propext ⟨fun hb => ?_, fun hi => ?_⟩
    · by_cases hlt : i < M.next
      · exact hlt
      · exact absurd hb (hF i (by omega))
    · cases hg : getO i M.objs with
      | none => exact absurd hg (dense_some hd hi)
      | some o => exact hS.wf i o hg
  subst hB
  obtain ⟨hk, hC⟩ := h G w xs hS hR
  refine ⟨hk, hC.mono fun e w' => ?_⟩
  rintro ⟨G', hP, hle, hE⟩
  exact ⟨Lt M'.next, G', hP, ⟨hle, fun i hi => by
    by_cases hlt : i < M.next
    · exact .inl hlt
    · exact .inr ⟨by omega, hi⟩⟩, hE⟩
/-- How a function is called. -/
theorem callP_ok {how : Nat} (hrun : ∀ vs M r M', run vs M = some (r, M') → RunOk P f vs M r M') (h : callP how run args M = some (r, M')) :
    CallOk P f args M r M' ∧ ∀ t tch, (t = true → touchM M args = some tch) → Frm t tch M M' := by
  suffices hh : CallOk P f args M r M' ∧ (dense M = false → ∀ t tch, (t = true → reach M.objs args = some tch) → Frm t tch M M') by
    refine ⟨hh.1, fun t tch ht => ?_⟩
    cases hd : dense M with
    | true =>
      refine ⟨fun htt id o h1 h2 h3 => ?_, fun id h1 h2 => ?_⟩
      · have h := ht htt
        unfold touchM at h
        rw [hd] at h
        have h : some (mapL Prod.fst M.objs) = some tch := h
        cases h
        exact absurd (by rw [mapL_eq]; exact getO_fst h1) h3
      · exact absurd h2 (dense_some hd h1)
    | false =>
      refine hh.2 hd t tch fun htt => ?_
      have h := ht htt
      unfold touchM at h
      rw [hd] at h
      exact h
  match how with
  | 0 =>
    have h : iso run (mapL weakA args) M = some (r, M') := h
    rw [mapL_eq] at h
    exact ⟨(iso_ok hrun h).weak, fun _ t tch ht => iso_frm h fun htt σ hσ i hi => reach_weak (ht htt) hσ i hi⟩
  | 1 =>
    have h : iso run args M = some (r, M') := h
    exact ⟨iso_ok hrun h, fun _ t tch ht => iso_frm h fun htt σ hσ i hi => by
      rw [ht htt] at hσ
      cases hσ
      exact hi⟩
  | 2 =>
    have h : pureCall run args M = some (r, M') := h
    obtain ⟨rfl, h2⟩ := pure_ok' hrun h
    exact ⟨h2, fun _ _ _ _ => .refl⟩
  | n + 3 =>
    have h : bf (dense M) (run (mapL weakA args) M) (iso run (mapL weakA args) M) = some (r, M') := h
    cases hd : dense M with
    | true =>
      rw [hd, mapL_eq] at h
      exact ⟨(plain_ok hd (hrun _ _ _ _ h)).weak, fun h => by cases h⟩
    | false =>
      rw [hd, mapL_eq] at h
      exact ⟨(iso_ok hrun h).weak, fun _ t tch ht => iso_frm h fun htt σ hσ i hi => reach_weak (ht htt) hσ i hi⟩
end
/-! ### Programs -/
structure Env where
  fn : Nat → Option CFunc
  how : Nat → Nat → Nat
  frz : Nat → Nat → Bool
  ext : Nat → Option (Cll → List AV → Mem → Option (Rs × Mem))
/-- The function f, called by me; at most n calls deep. -/
noncomputable def runE (E : Env) (fuel : Nat) (ih : Nat → Cll) (me f : Nat) : List AV → Mem → Option (Rs × Mem) :=
  Option.rec (motive := fun _ => List AV → Mem → Option (Rs × Mem)) (Option.rec (motive := fun _ => List AV → Mem → Option (Rs × Mem)) (fun _ _ => none) (fun c => evFun (ih f) fuel (E.frz me f) c) (E.fn f)) (fun e => e (ih f)) (E.ext f)
noncomputable def callE (E : Env) (fuel n : Nat) : Nat → Cll :=
  Nat.rec (motive := fun _ => Nat → Cll) (fun _ _ _ _ => none) (fun _ ih me f args M => callP (E.how me f) (runE E fuel ih me f) args M) n
structure EnvOk (P : Program) (E : Env) : Prop where
  fn : ∀ f c, E.fn f = some c → ∃ L fn, P.funcs[f]? = some fn ∧ cFunc P L fn = some c
  ext : ∀ f e, E.ext f = some e → ∀ call, CllOk P call → ∀ vs M r M', e call vs M = some (r, M') → RunOk P f vs M r M'
theorem runE_ok {P : Program} {E : Env} {fuel : Nat} (hfollow : P.follows .mixedOrders = true) (hE : EnvOk P E) {ih : Nat → Cll} (hih : ∀ me, CllOk P (ih me)) {me f : Nat} {vs : List AV} {M M' : Mem} {r : Rs} (h : runE E fuel ih me f vs M = some (r, M')) : RunOk P f vs M r M' := by
  unfold runE at h
  cases he : E.ext f with
  | some e =>
    rw [he] at h
    exact hE.ext f e he _ (hih f) _ _ _ _ h
  | none =>
    rw [he] at h
    cases hf : E.fn f with
    | none => rw [hf] at h; cases h
    | some c =>
      rw [hf] at h
      obtain ⟨L, fn, h1, h2⟩ := hE.fn f c hf
      exact evFun_ok hfollow (hih f) h1 h2 h
theorem callE_ok {P : Program} {E : Env} {fuel : Nat} (hfollow : P.follows .mixedOrders = true) (hE : EnvOk P E) : ∀ n me, CllOk P (callE E fuel n me)
  | 0, me => ⟨fun _ _ _ _ _ h => (by cases h), fun _ _ _ _ _ h => (by cases h)⟩
  | n + 1, me => by
    have ih := callE_ok (fuel := fuel) hfollow hE n
    have key : ∀ f vs M r M', callE E fuel (n + 1) me f vs M = some (r, M') → CallOk P f vs M r M' ∧ ∀ t tch, (t = true → touchM M vs = some tch) → Frm t tch M M' := by
      intro f vs M r M' h
      have h : callP (E.how me f) (runE E fuel (callE E fuel n) me f) vs M = some (r, M') := h
      exact callP_ok (fun vs M r M' h => runE_ok hfollow hE ih h) h
    exact ⟨fun f vs M r M' h => (key f vs M r M' h).1, fun f vs M r M' h => (key f vs M r M' h).2⟩
end Go.Ab
