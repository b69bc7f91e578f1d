/- Stores, and maps that change. Maps that change; new slices. Deletion; new slices; append. Append. Append, whole. Append, whole. Append: what the evaluator says of it holds. copy from a string into a row. Operations that change the memory, together. -/
import Derived.Test.YtmhjnndhphidfaaGreatA3
import Derived.Deep.Upon
namespace Go.Ab
set_option maxRecDepth 8000
set_option linter.unusedVariables false
set_option linter.unusedSimpArgs false
section
variable {P : Program} {objs : Objs} {B : Nat → Prop} {G : Gm} {w w' : World} {ρ : Rho} {fr : Fr} {env : List AV} {a : Act}
/-- What is shown of an operation that changes the memory. -/
def Does (P : Program) (objs : Objs) (B : Nat → Prop) (G : Gm) (w : World) (s : Sem Next) (v : AV) (objs' : Objs) (B' : Nat → Prop) : Prop :=
  ∃ nx x w' G', s.run P w = .ok nx w' ∧ (nx = .value x ∨ (nx = .skip ∧ x = undef)) ∧ Post objs B G w objs' B' G' w' ∧ R w' (Own objs' G') G' B' v x
theorem R.undef {O : Bl} {n : Nat → Prop} : R w O G n undefA undef := ⟨.tup [] [] rfl (by simp), by intro r hr; simp at hr⟩
theorem row_view {o : Ob} {es : List (List AV)} {O : Bl} {l : Loc} (h : view o = some es) (hr : Row w O G l es) : ORel w O G l o := by
  cases o with
  | pr es' => rw [view_pr] at h; cases h; exact hr
  | cells es' => cases h; exact hr
  | pmap m => cases h
  | map m => cases h
  | dead => cases h
theorem refsO_view {o : Ob} {es : List (List AV)} (h : view o = some es) : ∀ r, r ∈ refsO o ↔ r ∈ refsLL es := by
  intro r
  cases o with
  | pr es' =>
    rw [view_pr] at h
    cases h
    have : refsLL (lift es') = [] := by
      induction es' with
      | nil => rfl
      | cons c es ih => simp only [lift, List.map_cons, refsLL_cons, refsL_mapp] at ih ⊢; simpa using ih
    rw [this]; exact Iff.rfl
  | cells es' => cases h; exact Iff.rfl
  | pmap m => cases h
  | map m => cases h
  | dead => cases h
theorem refsLL_mem {es : List (List AV)} {r : Nat} : r ∈ refsLL es ↔ ∃ c ∈ es, ∃ v ∈ c, r ∈ refs v := by
  rw [refsLL_flatten, refsL_mem]
  constructor
  · rintro ⟨v, hv, hr⟩
    obtain ⟨c, hc, hv⟩ := List.mem_flatten.1 hv
    exact ⟨c, hc, v, hv, hr⟩
  · rintro ⟨c, hc, v, hv, hr⟩
    exact ⟨v, List.mem_flatten.2 ⟨c, hc, hv⟩, hr⟩
theorem refs_set {es : List (List AV)} {i off : Nat} {c vs : List AV} {r : Nat} (hi : es[i]? = some c) (h : r ∈ refsLL (es.set i (putAt c off vs))) : r ∈ refsLL es ∨ r ∈ refsL vs := by
  obtain ⟨d, hd, v, hv, hr⟩ := refsLL_mem.1 h
  rcases List.mem_or_eq_of_mem_set hd with hd | rfl
  · exact .inl (refsLL_mem.2 ⟨d, hd, v, hv, hr⟩)
  · rw [putAt_eq] at hv
    simp only [List.mem_append] at hv
    rcases hv with (hv | hv) | hv
    · exact .inl (refsLL_mem.2 ⟨c, List.mem_of_getElem? hi, v, List.mem_of_mem_take hv, hr⟩)
    · exact .inr (refsL_mem.2 ⟨v, hv, hr⟩)
    · exact .inl (refsLL_mem.2 ⟨c, List.mem_of_getElem? hi, v, List.mem_of_mem_drop hv, hr⟩)
theorem mapO_pure {vs : List AV} {ps : List PV} (h : mapO pure? vs = some ps) : vs = ps.map .p := by
  obtain ⟨h1, h2⟩ := mapO_some h
  apply List.ext_getElem?
  intro j
  cases hj : vs[j]? with
  | none =>
    have : vs.length ≤ j := by simpa using hj
    simp [List.getElem?_eq_none (show ps.length ≤ j by omega)]
  | some v =>
    obtain ⟨q, hq, hp⟩ := h2 j v hj
    simp [hq, pure?_some hp]
theorem putAt_map {α β : Type} (f : α → β) (c vs : List α) (off : Nat) : (putAt c off vs).map f = putAt (c.map f) off (vs.map f) := by
  simp [putAt_eq, List.map_take, List.map_drop]
theorem putO_view {o o' : Ob} {i off : Nat} {vs : List AV} (h : putO i off o vs = some o') : ∃ es c, view o = some es ∧ es[i]? = some c ∧ off + vs.length ≤ c.length ∧ view o' = some (es.set i (putAt c off vs)) := by
  cases o with
  | pr es =>
    have h : ob (nth es i) (fun c => bf (Nat.ble (off + len vs) (len c))
      (Option.rec (motive := fun _ => Option Ob) (some (.cells (setN (putAt (mapL .p c) off vs) (mapL (mapL .p) es) i))) (fun ps => some (.pr (setN (putAt c off ps) es i))) (mapO pure? vs)) none) = some o' := h
    simp only [ob_some, bf_some, nth_eq, len_eq] at h
    obtain ⟨c, hc, hle, h⟩ := h
    have hle := Nat.le_of_ble_eq_true hle
    refine ⟨lift es, c.map .p, view_pr es, by simp [lift, hc], by simpa using hle, ?_⟩
    cases hm : mapO pure? vs with
    | none =>
      rw [hm] at h
      cases h
      have e : mapL (AV.p) = List.map AV.p := funext fun l => mapL_eq _ l
      simp [view, lift, e]
    | some ps =>
      rw [hm] at h
      cases h
      rw [view_pr, mapO_pure hm]
      simp only [lift, setN_eq, List.map_set, putAt_map]
  | cells es =>
    have h : ob (nth es i) (fun c => bf (Nat.ble (off + len vs) (len c)) (some (.cells (setN (putAt c off vs) es i))) none) = some o' := h
    simp only [ob_some, bf_some, nth_eq, len_eq] at h
    obtain ⟨c, hc, hle, h⟩ := h
    cases h
    exact ⟨es, c, rfl, hc, Nat.le_of_ble_eq_true hle, by simp [view]⟩
  | pmap m => cases h
  | map m => cases h
  | dead => cases h
theorem run_storeAll {t : TypeId} {g o : Nat} {e : TypeId} {old : Array Value} {y : Value} (hg : w.heap[g]? = some (.cells old e (0, 0))) (hsz : (sizeOf t).run P w = .ok y.cells.size w) (hle : o + y.cells.size ≤ old.size) (hcell : AllCell y.cells.toList) :
    (storeVar t ⟨g, o, none⟩ y).run P w = .ok () (w.setRow g (old.toList.take o ++ y.cells.toList ++ old.toList.drop (o + y.cells.toList.length)).toArray) := by
  have := run_storeCells_at (P := P) g o e y.cells.toList 0 old w hg (by simpa using hle) hcell
  simp only [Nat.add_zero] at this
  simp [storeVar, hsz, this]
theorem eok_store (hS : St objs B G w) (hc : Cx ρ fr env a w (Own objs G) G B) {t : TypeId} {x y : Operand} {ox oy : Opd} {nx : Nat} {r : AV × Mem} (h0 : ¬ P.cellsOf t = 0) (hx : opdC ρ x = some ox) (hy : opdC ρ y = some oy) (he : evE (.store (P.cellsOf t) ox oy) fr env ⟨nx, objs⟩ = some r) :
    r.2.next = nx ∧ ∃ w' G', (Instr.storeAt t (a.eval x) (a.eval y)).run P w = .ok () w' ∧ Post objs B G w r.2.objs B G' w' ∧ R w' (Own r.2.objs G') G' B r.1 undef := by
  simp only [evE, ob_some, bf_some] at he
  obtain ⟨u, hu, v, hv, hcond, he⟩ := he
  rw [bf_and, Bool.and_eq_true, allL_eq, len_eq] at hcond
  obtain ⟨hn, hall⟩ := hcond
  have hn := Nat.eq_of_beq_eq_true hn
  have hrx := hc.opd hx hu
  have hry := hc.opd hy hv
  rcases ptrCases_some he with ⟨id, i, off, rfl, he⟩ | ⟨es, i, off, rfl, he⟩
  · obtain ⟨o, ho, he⟩ := ob_some.1 he
    obtain ⟨o', ho', he⟩ := ob_some.1 he
    cases he
    refine ⟨rfl, ?_⟩
    obtain ⟨es, c, h1, h2, h3, h4⟩ := putO_view ho'
    have hal : Alive objs id o := ⟨ho, view_alive h1⟩
    have hrow := view_row h1 (hS.rel id o hal)
    obtain ⟨old, e, g1, g2, g3, g4⟩ := hrow
    have hcv := cells_ok hry
    have hcell := cells_cell hry hall
    have hysz : (a.eval y).cells.size = P.cellsOf t := by rw [← hn, hcv.1]; simp
    generalize a.eval x = xx at hrx ⊢
    cases hrx.1
    have hil : i < es.length := (List.getElem?_eq_some_iff.1 h2).1
    have hcl := (g4 i c h2).1
    have hle : (G id).o + i * (G id).s + off + (a.eval y).cells.size ≤ old.size := by
      have : i * (G id).s + (G id).s ≤ es.length * (G id).s := by have := Nat.mul_le_mul_right (G id).s (show i + 1 ≤ es.length from hil); rw [Nat.add_mul] at this; omega
      rw [hn] at h3
      omega
    have hsize : (sizeOf t).run P w = .ok (a.eval y).cells.size w := by
      rw [hysz]
      exact run_size0 w h0
    have hrun := run_storeAll (P := P) (t := t) (y := a.eval y) g1 hsize hle hcell
    have hsetsz : (old.toList.take ((G id).o + i * (G id).s + off) ++ (a.eval y).cells.toList ++ old.toList.drop ((G id).o + i * (G id).s + off + (a.eval y).cells.toList.length)).toArray.size = old.size := by simp; omega
    have hown : Mut objs G (G id).b := ⟨id, o, hal, rfl⟩
    have hE := setRow_ev (O := Mut objs G) g1 hown hsetsz
    refine ⟨_, G, by simpa [Instr.storeAt, Instr.sureAddr] using hrun, upd_ok hS hal hE (fun b hb _ => by rw [setRow_at g1, if_neg hb]) (fun hd O' hv' hp' => ?_) (fun r hr => ?_), R.undef⟩
    · refine row_view h4 ?_
      have hrow' : Row w (Own objs G) G (G id) es := ⟨old, e, g1, g2, g3, g4⟩
      exact row_put hrow' h2 h3 g1 hcv hcell (by rw [setRow_at g1, if_pos rfl]) hv' fun r hr => hS.refs id o hal r ((refsO_view h1 r).2 hr)
    · rcases refs_set h2 ((refsO_view h4 r).1 hr) with hr | hr
      · exact hS.refs id o hal r ((refsO_view h1 r).2 hr)
      · exact hcv.below r hr
  · cases he
end
end Go.Ab
namespace Go.Ab
set_option maxRecDepth 8000
set_option linter.unusedVariables false
set_option linter.unusedSimpArgs false
section
variable {P : Program} {objs : Objs} {B : Nat → Prop} {G : Gm} {w w' : World} {ρ : Rho} {fr : Fr} {env : List AV} {a : Act}
section
variable {α : Type}
theorem putK_cons {k p : PV} {v x : α} {l l' : List (PV × α)} (h : putK k x ((p, v) :: l) = some l') : ∃ b, eqKy k p = some b ∧ ((b = true ∧ l' = (k, x) :: l) ∨ (b = false ∧ ∃ m, putK k x l = some m ∧ l' = (p, v) :: m)) := by
  have e : putK k x ((p, v) :: l) = ob (eqKy k p) fun r => bf r (some ((k, x) :: l)) (ob (putK k x l) fun m => some ((p, v) :: m)) := rfl
  rw [e] at h
  obtain ⟨b, hb, h⟩ := ob_some.1 h
  cases b
  · obtain ⟨m, hm, h⟩ := ob_some.1 (show ob (putK k x l) (fun m => some ((p, v) :: m)) = some l' from h)
    cases h
    exact ⟨false, hb, .inr ⟨rfl, m, hm, rfl⟩⟩
  · cases h; exact ⟨true, hb, .inl ⟨rfl, rfl⟩⟩
theorem delK_cons {k p : PV} {v : α} {l l' : List (PV × α)} (h : delK k ((p, v) :: l) = some l') : ∃ b, eqKy k p = some b ∧ ((b = true ∧ l' = l) ∨ (b = false ∧ ∃ m, delK k l = some m ∧ l' = (p, v) :: m)) := by
  have e : delK k ((p, v) :: l) = ob (eqKy k p) fun r => bf r (some l) (ob (delK k l) fun m => some ((p, v) :: m)) := rfl
  rw [e] at h
  obtain ⟨b, hb, h⟩ := ob_some.1 h
  cases b
  · obtain ⟨m, hm, h⟩ := ob_some.1 (show ob (delK k l) (fun m => some ((p, v) :: m)) = some l' from h)
    cases h
    exact ⟨false, hb, .inr ⟨rfl, m, hm, rfl⟩⟩
  · cases h; exact ⟨true, hb, .inl ⟨rfl, rfl⟩⟩
end
def vals (l : List (PV × PV)) : List (PV × AV) := l.map fun p => (p.1, .p p.2)
theorem valMap_eq (l : List (PV × PV)) : valMap l = vals l := by simp [valMap, vals]
theorem putK_pure {k x : PV} : ∀ {l l' : List (PV × PV)}, putK k x l = some l' → putK k (AV.p x) (vals l) = some (vals l')
  | [], l', h => by cases h; rfl
  | (p, v) :: l, l', h => by
    have e : putK k (AV.p x) (vals ((p, v) :: l)) = ob (eqKy k p) fun r => bf r (some ((k, AV.p x) :: vals l)) (ob (putK k (AV.p x) (vals l)) fun m => some ((p, AV.p v) :: m)) := rfl
    rw [e]
    obtain ⟨b, hb, hh | ⟨hh, m, hm, rfl⟩⟩ := putK_cons h
    · obtain ⟨rfl, rfl⟩ := hh
      rw [hb, ob_of, bf_true]; rfl
    · subst hh
      rw [hb, putK_pure hm]; rfl
theorem delK_pure {k : PV} : ∀ {l l' : List (PV × PV)}, delK k l = some l' → delK k (vals l) = some (vals l')
  | [], l', h => by cases h; rfl
  | (p, v) :: l, l', h => by
    have e : delK k (vals ((p, v) :: l)) = ob (eqKy k p) fun r => bf r (some (vals l)) (ob (delK k (vals l)) fun m => some ((p, AV.p v) :: m)) := rfl
    rw [e]
    obtain ⟨b, hb, hh | ⟨hh, m, hm, rfl⟩⟩ := delK_cons h
    · obtain ⟨rfl, rfl⟩ := hh
      rw [hb, ob_of, bf_true]
    · subst hh
      rw [hb, delK_pure hm]; rfl
theorem putK_ok {O : Bl} {kt : TypeId} {k : PV} {xk : Value} (hd : KeyT P kt (kindK k)) (hk : PRel w O k xk) {x : AV} : ∀ (l : List (PV × AV)) (es : List MapEntry) (i : Nat) (l' : List (PV × AV)), l.length = es.length →
    (∀ (j : Nat) (p : PV) (v : AV) (e : MapEntry), l[j]? = some (p, v) → es[j]? = some e → PRel w O p e.key ∧ AVRel w O G v e.val) → putK k x l = some l' →
    (FindAt P kt w xk es i none ∧ l' = l ++ [(k, x)]) ∨ ∃ (j : Nat) (e : MapEntry) (p : PV) (v : AV), FindAt P kt w xk es i (some (i + j, e.val)) ∧ es[j]? = some e ∧ l[j]? = some (p, v) ∧ l' = l.set j (k, x) ∧ eqKy k p = some true
  | [], es, i, l', hl, h, hp => by
    cases es with
    | nil => cases hp; exact .inl ⟨.nil hd xk i, rfl⟩
    | cons e es => simp at hl
  | (p, v) :: l, es, i, l', hl, h, hp => by
    cases es with
    | nil => simp at hl
    | cons e es =>
      obtain ⟨b, hb, hr⟩ := putK_cons hp
      have h0 := h 0 p v e (by simp) (by simp)
      rcases hr with ⟨rfl, rfl⟩ | ⟨rfl, m, hm, rfl⟩
      · exact .inr ⟨0, e, p, v, .hit hd hk h0.1 hb, by simp, by simp, by simp, hb⟩
      · rcases putK_ok hd hk l es (i + 1) m (by simpa using hl) (fun j p v e h1 h2 => h (j + 1) p v e (by simpa using h1) (by simpa using h2)) hm with ⟨h1, rfl⟩ | ⟨j, e', p', v', h1, h2, h3, rfl, h5⟩
        · exact .inl ⟨.miss hd hk h0.1 hb h1, rfl⟩
        · rw [show i + 1 + j = i + (j + 1) by omega] at h1
          exact .inr ⟨j + 1, e', p', v', .miss hd hk h0.1 hb h1, by simpa using h2, by simpa using h3, by simp, h5⟩
theorem delK_ok {O : Bl} {kt : TypeId} {k : PV} {xk : Value} (hd : KeyT P kt (kindK k)) (hk : PRel w O k xk) : ∀ (l : List (PV × AV)) (es : List MapEntry) (i : Nat) (l' : List (PV × AV)), l.length = es.length →
    (∀ (j : Nat) (p : PV) (v : AV) (e : MapEntry), l[j]? = some (p, v) → es[j]? = some e → PRel w O p e.key ∧ AVRel w O G v e.val) → delK k l = some l' →
    (FindAt P kt w xk es i none ∧ l' = l) ∨ ∃ (j : Nat) (e : MapEntry), FindAt P kt w xk es i (some (i + j, e.val)) ∧ j < es.length ∧ l' = l.eraseIdx j
  | [], es, i, l', hl, h, hp => by
    cases es with
    | nil => cases hp; exact .inl ⟨.nil hd xk i, rfl⟩
    | cons e es => simp at hl
  | (p, v) :: l, es, i, l', hl, h, hp => by
    cases es with
    | nil => simp at hl
    | cons e es =>
      obtain ⟨b, hb, hr⟩ := delK_cons hp
      have h0 := h 0 p v e (by simp) (by simp)
      rcases hr with ⟨rfl, rfl⟩ | ⟨rfl, m, hm, rfl⟩
      · exact .inr ⟨0, e, .hit hd hk h0.1 hb, by simp, by simp⟩
      · rcases delK_ok hd hk l es (i + 1) m (by simpa using hl) (fun j p v e h1 h2 => h (j + 1) p v e (by simpa using h1) (by simpa using h2)) hm with ⟨h1, rfl⟩ | ⟨j, e', h1, h2, rfl⟩
        · exact .inl ⟨.miss hd hk h0.1 hb h1, rfl⟩
        · rw [show i + 1 + j = i + (j + 1) by omega] at h1
          exact .inr ⟨j + 1, e', .miss hd hk h0.1 hb h1, by simpa using h2, by simp⟩
theorem key_same1 {O : Bl} {k p : PV} {x y : Value} (hk : PRel w O k x) (hp : PRel w O p y) (h : eq1 k p = some true) : y = x ∧ Instr.sameBits 10000 x x = true := by
  cases hk with
  | bool b =>
    obtain ⟨c, hc, e⟩ := ob_some.1 (show ob (piB p) (fun y => some (eqBb b y)) = some true from h)
    rw [piB_some hc] at hp; cases hp
    rw [eqBb_eq] at e
    simp at e
    subst e
    exact ⟨rfl, by simp [Instr.sameBits]⟩
  | int k m =>
    obtain ⟨c, hc, e⟩ := ob_some.1 (show ob (piI p) (fun y => bf (keq k y.1) (some (beqI m y.2)) none) = some true from h)
    rw [piI_some hc] at hp; cases hp
    rw [bf_some] at e
    obtain ⟨hk', e⟩ := e
    rw [beqI_eq] at e
    simp at e
    rw [keq_eq hk', e]
    exact ⟨rfl, by simp [Instr.sameBits]⟩
  | str s b hs =>
    obtain ⟨c, hc, e⟩ := ob_some.1 (show ob (piS p) (fun y => some (eqS s y)) = some true from h)
    rw [piS_some hc] at hp
    cases hp with | str _ c' hc' =>
    subst hs; subst hc'
    rw [eqS_bytes] at e
    have e : (b.toList == c'.toList) = true := by simpa using e
    have : b = c' := by
      have h := eq_of_beq e
      rw [ByteArray.toList_eq, ByteArray.toList_eq] at h
      cases b; cases c'
      congr
      exact Array.ext' h
    subst this
    exact ⟨rfl, by simp [Instr.sameBits, eqBS_toList]⟩
  | fz0 => simp [eq1] at h
  | fz => simp [eq1] at h
  | agg => simp [eq1] at h
theorem eqK_same {O : Bl} : ∀ (ks : List Nat) (cs ds : List PV) (xs ys : List Value), eqK ks cs ds = some true → cs.length = xs.length → ds.length = ys.length → (∀ (j : Nat) (c : PV) (x : Value), cs[j]? = some c → xs[j]? = some x → PRel w O c x) →
    (∀ (j : Nat) (c : PV) (x : Value), ds[j]? = some c → ys[j]? = some x → PRel w O c x) → ys = xs ∧ ∀ n, (xs.zip xs).all (fun (x, y) => Instr.sameBits (n + 1) x y) = true
  | [], cs, ds, xs, ys, h, h1, h2, h3, h4 => by
    cases cs <;> cases ds <;> first | (cases h; done) | skip
    cases xs <;> cases ys <;> simp at h1 h2
    exact ⟨rfl, fun _ => rfl⟩
  | k :: ks, cs, ds, xs, ys, h, h1, h2, h3, h4 => by
    obtain ⟨x, l, y, m, r1, r2, rfl, rfl, hx, e1, e2, hr⟩ := eqK_cons h
    cases xs with
    | nil => simp at h1
    | cons vx xs =>
    cases ys with
    | nil => simp at h2
    | cons vy ys =>
    have hr : r1 = true ∧ r2 = true := by simpa using hr.symm
    obtain ⟨rfl, rfl⟩ := hr
    obtain ⟨ih1, ih2⟩ := eqK_same ks l m xs ys e2 (by simpa using h1) (by simpa using h2) (fun j c x hc hx => h3 (j + 1) c x (by simpa using hc) (by simpa using hx)) (fun j c x hc hx => h4 (j + 1) c x (by simpa using hc) (by simpa using hx))
    have hp1 := h3 0 x vx (by simp) (by simp)
    obtain ⟨k1, k2⟩ := key_same1 hp1 (h4 0 y vy (by simp) (by simp)) e1
    have k3 : ∀ n, Instr.sameBits (n + 1) vx vx = true := by
      intro n
      cases hp1 with
      | bool b => simp [Instr.sameBits]
      | int k m => simp [Instr.sameBits]
      | str s b hs => simp [Instr.sameBits, eqBS_toList]
      | fz0 => simp [eq1] at e1
      | fz => simp [eq1] at e1
      | agg => simp [eq1] at e1
    exact ⟨by rw [k1, ih1], fun n => by rw [List.zip_cons_cons, List.all_cons, ih2 n, Bool.and_true]; exact k3 n⟩
/-- Keys that are found equal are the same value. -/
theorem key_same {O : Bl} {k p : PV} {x y : Value} (hk : PRel w O k x) (hp : PRel w O p y) (h : eqKy k p = some true) : y = x ∧ Instr.sameBits 10000 x x = true := by
  cases k with
  | agg cs =>
    obtain ⟨ds, hds, h⟩ := ob_some.1 (show (ob (piA p) fun ds => eqK (mapL kindP cs) cs ds) = some true from h)
    have hpa : p = .agg ds := by cases p <;> simp [piA] at hds; rw [hds]
    subst hpa
    cases hk with | agg _ xs hl1 hv1 k1 =>
    cases hp with | agg _ ys hl2 hv2 k2 =>
    obtain ⟨e1, e2⟩ := eqK_same _ cs ds xs ys h hl1 hl2 k1 k2
    subst e1
    refine ⟨rfl, ?_⟩
    show Instr.sameBits (9999 + 1) (.agg ⟨ys⟩) (.agg ⟨ys⟩) = true
    simp only [Instr.sameBits, beq_self_eq_true, Bool.true_and]
    exact e2 9998
  | bool b => exact key_same1 hk hp h
  | int k m => exact key_same1 hk hp h
  | str s => exact key_same1 hk hp h
  | fz es => exact key_same1 hk hp h
theorem setMap_ev {O : Bl} {b : Nat} {es es' : Array MapEntry} {ck ck' : Nat} (hb : w.heap[b]? = some (.map es ck)) (ho : O b) : Ev O w { w with heap := w.heap.setIfInBounds b (.map es' ck') } where
  os := rfl
  tape := rfl
  output := rfl
  size := by simp
  keep k hk hn := by
    have : b ≠ k := by rintro rfl; exact hn ho
    simp [this]
  shape k c e f h := by
    have : b ≠ k := by rintro rfl; rw [hb] at h; cases h
    exact ⟨c, by simpa [this] using h, rfl⟩
/-- The maps that an object is. -/
def MapO (o : Ob) (l : List (PV × AV)) : Prop := (∃ m, o = .pmap m ∧ l = vals m) ∨ o = .map l
theorem MapO.rel {o : Ob} {l : List (PV × AV)} {O : Bl} {lc : Loc} (h : MapO o l) : ORel w O G lc o ↔ MapAt w O G lc.b l := by
  rcases h with ⟨m, rfl, rfl⟩ | rfl <;> exact Iff.rfl
theorem MapO.alive {o : Ob} {l : List (PV × AV)} (h : MapO o l) : o ≠ .dead := by
  rcases h with ⟨m, rfl, rfl⟩ | rfl <;> simp
theorem MapO.refs {o : Ob} {l : List (PV × AV)} (h : MapO o l) (r : Nat) : r ∈ refsO o ↔ r ∈ refsM l := by
  rcases h with ⟨m, rfl, rfl⟩ | rfl
  · have : refsM (vals m) = [] := by
      induction m with
      | nil => rfl
      | cons p m ih => simp only [vals, List.map_cons, refsM_cons] at ih ⊢; simpa using ih
    rw [this]; exact Iff.rfl
  · exact Iff.rfl
theorem asMapO {α : Type} {o : Ob} {f : List (PV × PV) → Option α} {g : List (PV × AV) → Option α} {r : α} (h : asMap o f g = some r) : (∃ l, o = .pmap l ∧ f l = some r) ∨ ∃ l, o = .map l ∧ g l = some r := by
  cases o with
  | pmap l => exact .inl ⟨l, rfl, h⟩
  | map l => exact .inr ⟨l, rfl, h⟩
  | pr es => cases h
  | cells es => cases h
  | dead => cases h
theorem mapUpd_some {M M' : Mem} {id : Nat} {k : PV} {x : AV} (h : mapUpd M id k x = some M') : ∃ o o' l l', getO id M.objs = some o ∧ MapO o l ∧ MapO o' l' ∧ putK k x l = some l' ∧ M' = M.upd id o' := by
  obtain ⟨o, ho, h⟩ := ob_some.1 h
  rcases asMapO h with ⟨l, rfl, h⟩ | ⟨l, rfl, h⟩
  · cases hp : pure? x with
    | none =>
      rw [hp] at h
      obtain ⟨l', hl', h⟩ := ob_some.1 (show ob (putK k x (valMap l)) (fun l => some (M.upd id (.map l))) = some M' from h)
      cases h
      rw [valMap_eq] at hl'
      exact ⟨_, _, vals l, l', ho, .inl ⟨l, rfl, rfl⟩, .inr rfl, hl', rfl⟩
    | some q =>
      rw [hp] at h
      obtain ⟨l', hl', h⟩ := ob_some.1 (show ob (putK k q l) (fun l => some (M.upd id (.pmap l))) = some M' from h)
      cases h
      rw [pure?_some hp]
      exact ⟨_, _, vals l, vals l', ho, .inl ⟨l, rfl, rfl⟩, .inl ⟨l', rfl, rfl⟩, putK_pure hl', rfl⟩
  · obtain ⟨l', hl', h⟩ := ob_some.1 h
    cases h
    exact ⟨_, _, l, l', ho, .inr rfl, .inr rfl, hl', rfl⟩
theorem refsM_mem {l : List (PV × AV)} {r : Nat} : r ∈ refsM l ↔ ∃ p ∈ l, r ∈ refs p.2 := by
  induction l with
  | nil => simp
  | cons p l ih => simp [ih]
theorem key_desc {t : TypeId} {kk : Nat} (hk : keyK P t = some kk) : ∃ kt e, P.underlying t = some (.map kt e) ∧ KeyT P kt kk := keyK_some hk
theorem eok_mapSetW (hS : St objs B G w) (hc : Cx ρ fr env a w (Own objs G) G B) {t : TypeId} {m k x : Operand} {om ok ox : Opd} {kk nx : Nat} {r : AV × Mem} (hkk : keyK P t = some kk) (hm : opdC ρ m = some om) (hk : opdC ρ k = some ok) (hx : opdC ρ x = some ox)
    (he : evE (.mapSet kk om ok ox) fr env ⟨nx, objs⟩ = some r) :
    r.2.next = nx ∧ ∃ w' G', (Instr.mapUpdate t (a.eval m) (a.eval k) (a.eval x)).run P w = .ok () w' ∧ Post objs B G w r.2.objs B G' w' ∧ R w' (Own r.2.objs G') G' B r.1 undef ∧ ∀ b b' : Nat, a.eval m = .map (some b) → b' ≠ b → w'.heap[b']? = w.heap[b']? := by
  obtain ⟨kt, e, hu, hKD⟩ := key_desc hkk
  simp only [evE, ob_some, bf_some] at he
  obtain ⟨um, hum, uk, huk, ux, hux, pk, hpk, hkind, he⟩ := he
  have hkind := Nat.eq_of_beq_eq_true hkind
  have hrm := hc.opd hm hum
  have hrk := hc.opd hk huk
  have hrx := hc.opd hx hux
  rw [asP_some hpk] at hrk
  cases hrk.1 with | p _ _ hpk' =>
  rw [← hkind] at hKD
  have hck : ∀ e, (Instr.checkKey e 10000 kt (a.eval k)).run P w = .ok () w := fun e => checkKey_ok hKD hpk' e 9998
  generalize a.eval m = xm at hrm ⊢
  rcases mapCases_some he with ⟨id, rfl, he⟩ | ⟨rfl, he⟩ <;> try (cases he; done)
  obtain ⟨M', hM', he⟩ := ob_some.1 he
  cases he
  obtain ⟨o, o', l, l', ho, h1, h2, hput, rfl⟩ := mapUpd_some hM'
  refine ⟨rfl, ?_⟩
  cases hrm.1
  have hal : Alive objs id o := ⟨ho, h1.alive⟩
  obtain ⟨es, ck, hb, hsz, hes⟩ := h1.rel.1 (hS.rel id o hal)
  have hrefs : ∀ (i : Nat) (p : PV) (v : AV), l[i]? = some (p, v) → Below B v := fun i p v hi r hr => hS.refs id o hal r ((h1.refs r).2 (refsM_get hi hr))
  have hown : Mut objs G (G id).b := ⟨id, o, hal, rfl⟩
  have fin : ∀ (es' : Array MapEntry) (ck' : Nat), (Instr.mapUpdate t (.map (some (G id).b)) (a.eval k) (a.eval x)).run P w = .ok () { w with heap := w.heap.setIfInBounds (G id).b (.map es' ck') } →
      MapSz es' ck' l'.length → (∀ (i : Nat) (p : PV) (v : AV) (e : MapEntry), l'[i]? = some (p, v) → es'[i]? = some e → PRel w (Own objs G) p e.key ∧ R w (Own objs G) G B v e.val) →
      (∀ r ∈ refsM l', B r) →
      ∃ w' G', (Instr.mapUpdate t (.map (some (G id).b)) (a.eval k) (a.eval x)).run P w = .ok () w' ∧ Post objs B G w (setO id o' objs) B G' w' ∧ R w' (Own (setO id o' objs) G') G' B undefA undef ∧ ∀ b b' : Nat, Value.map (some (G id).b) = .map (some b) → b' ≠ b → w'.heap[b']? = w.heap[b']? := by
    intro es' ck' hrun hsz' hval hr'
    refine ⟨_, G, hrun, upd_ok hS hal (setMap_ev hb hown) (fun b hb' _ => by have : (G id).b ≠ b := fun h => hb' h.symm; simp [this]) (fun _ O' hv hp => ?_) (fun r hr => hr' r ((h2.refs r).1 hr)), R.undef, fun b b' hb1 hb2 => by cases hb1; have : ¬ (G id).b = b' := fun h => hb2 h.symm; simp [this]⟩
    refine h2.rel.2 ⟨es', ck', ?_, hsz', fun i p v e h3 h4 => ?_⟩
    · have := (Array.getElem?_eq_some_iff.1 hb).1
      simp [this]
    · obtain ⟨k1, k2⟩ := hval i p v e h3 h4
      exact ⟨hp _ _ k1, hv _ _ k2⟩
  rcases putK_ok (G := G) hKD hpk' l es.toList 0 l' (by simpa using hsz.1.symm) (fun j p v e h1 h2 => hes j p v e h1 (by simpa using h2)) hput with ⟨hf, rfl⟩ | ⟨j, en, p, v, hf, hj, hlj, rfl, heq⟩
  · refine fin (es.push { key := a.eval k, val := a.eval x, born := ck }) (ck + 1) (by simp [Instr.mapUpdate, run_und w hu, MapKept.run_getObj_map hb, hck, FindAt.run hf, MapKept.run_setObj_map _ hb]) (by simpa using hsz.push _ _) (fun i p v e h3 h4 => ?_) (fun r hr => ?_)
    · rw [Array.getElem?_push] at h4
      rw [List.getElem?_append] at h3
      by_cases hi : i < l.length
      · rw [if_pos hi] at h3
        rw [if_neg (by have := hsz.1; omega)] at h4
        exact ⟨(hes i p v e h3 h4).1, (hes i p v e h3 h4).2, hrefs i p v h3⟩
      · rw [if_neg hi] at h3
        have hi' : i - l.length = 0 := by
          have := (List.getElem?_eq_some_iff.1 h3).1
          simpa using this
        rw [hi'] at h3
        simp at h3
        obtain ⟨rfl, rfl⟩ := h3
        rw [if_pos (by have := hsz.1; omega)] at h4
        cases h4
        exact ⟨hpk', hrx⟩
    · obtain ⟨q, hq, hr⟩ := refsM_mem.1 hr
      rcases List.mem_append.1 hq with hq | hq
      · obtain ⟨i, hi⟩ := List.mem_iff_getElem?.1 hq
        exact hrefs i q.1 q.2 hi r hr
      · simp at hq
        subst hq
        exact hrx.2 r hr
  · have hj' : es[j]? = some en := by simpa using hj
    have hkey : en.key = a.eval k ∧ Instr.sameBits 10000 (a.eval k) (a.eval k) = true := key_same hpk' (hes j p v en hlj hj').1 heq
    rw [Nat.zero_add] at hf
    refine fin (es.modify j fun e => { e with key := a.eval k, val := a.eval x }) ck ?_ (by simpa using hsz.modify j (fun e => { e with key := a.eval k, val := a.eval x }) fun _ => rfl) (fun i p' v' e h3 h4 => ?_) (fun r hr => ?_)
    · simp [Instr.mapUpdate, run_und w hu, MapKept.run_getObj_map hb, hck, FindAt.run hf, hj', hkey.1, Instr.keyThatStays, hkey.2, MapKept.run_setObj_map _ hb]
    · rw [List.getElem?_set] at h3
      rw [Array.getElem?_modify] at h4
      by_cases hij : j = i
      · subst hij
        have hlt := (List.getElem?_eq_some_iff.1 hlj).1
        simp [hlt] at h3
        obtain ⟨rfl, rfl⟩ := h3
        simp [hj'] at h4
        subst h4
        exact ⟨hpk', hrx⟩
      · simp [hij] at h3 h4
        exact ⟨(hes i p' v' e h3 h4).1, (hes i p' v' e h3 h4).2, hrefs i p' v' h3⟩
    · obtain ⟨q, hq, hr⟩ := refsM_mem.1 hr
      rcases List.mem_or_eq_of_mem_set hq with hq | rfl
      · obtain ⟨i, hi⟩ := List.mem_iff_getElem?.1 hq
        exact hrefs i q.1 q.2 hi r hr
      · exact hrx.2 r hr
theorem eok_mapSet (hS : St objs B G w) (hc : Cx ρ fr env a w (Own objs G) G B) {t : TypeId} {m k x : Operand} {om ok ox : Opd} {kk nx : Nat} {r : AV × Mem} (hkk : keyK P t = some kk) (hm : opdC ρ m = some om) (hk : opdC ρ k = some ok) (hx : opdC ρ x = some ox)
    (he : evE (.mapSet kk om ok ox) fr env ⟨nx, objs⟩ = some r) :
    r.2.next = nx ∧ ∃ w' G', (Instr.mapUpdate t (a.eval m) (a.eval k) (a.eval x)).run P w = .ok () w' ∧ Post objs B G w r.2.objs B G' w' ∧ R w' (Own r.2.objs G') G' B r.1 undef := by
  obtain ⟨h1, w', G', h2, h3, h4, _⟩ := eok_mapSetW hS hc hkk hm hk hx he
  exact ⟨h1, w', G', h2, h3, h4⟩
end
end Go.Ab
namespace Go.Ab
set_option maxRecDepth 8000
set_option linter.unusedVariables false
set_option linter.unusedSimpArgs false
section
variable {P : Program} {objs : Objs} {B : Nat → Prop} {G : Gm} {w w' : World} {ρ : Rho} {fr : Fr} {env : List AV} {a : Act}
theorem map_upd (hS : St objs B G w) {id : Nat} {o o' : Ob} {l l' : List (PV × AV)} (ho : getO id objs = some o) (h1 : MapO o l) (h2 : MapO o' l') {es es' : Array MapEntry} {ck ck' : Nat} (hb : w.heap[(G id).b]? = some (.map es ck)) (hsz' : MapSz es' ck' l'.length)
    (hval : ∀ (i : Nat) (p : PV) (v : AV) (e : MapEntry), l'[i]? = some (p, v) → es'[i]? = some e → PRel w (Own objs G) p e.key ∧ R w (Own objs G) G B v e.val) (hr' : ∀ r ∈ refsM l', B r) :
    Post objs B G w (setO id o' objs) B G { w with heap := w.heap.setIfInBounds (G id).b (.map es' ck') } := by
  have hal : Alive objs id o := ⟨ho, h1.alive⟩
  have hown : Mut objs G (G id).b := ⟨id, o, hal, rfl⟩
  refine upd_ok hS hal (setMap_ev hb hown) (fun b hb' _ => by have : (G id).b ≠ b := fun h => hb' h.symm; simp [this]) (fun _ O' hv hp => ?_) (fun r hr => hr' r ((h2.refs r).1 hr))
  refine h2.rel.2 ⟨es', ck', ?_, hsz', fun i p v e h3 h4 => ?_⟩
  · have := (Array.getElem?_eq_some_iff.1 hb).1
    simp [this]
  · obtain ⟨k1, k2⟩ := hval i p v e h3 h4
    exact ⟨hp _ _ k1, hv _ _ k2⟩
theorem eok_delete (hS : St objs B G w) (hc : Cx ρ fr env a w (Own objs G) G B) {t ty : TypeId} {ts : Array TypeId} {m k : Operand} {om ok : Opd} {kk nx : Nat} {r : AV × Mem} (ht : ts[0]? = some t) (hkk : keyK P t = some kk) (hm : opdC ρ m = some om) (hk : opdC ρ k = some ok)
    (he : evE (.delete kk om ok) fr env ⟨nx, objs⟩ = some r) :
    r.2.next = nx ∧ ∃ w' G', (Builtin.delete_ ts ty #[a.eval m, a.eval k]).run P w = .ok undef w' ∧ Post objs B G w r.2.objs B G' w' ∧ R w' (Own r.2.objs G') G' B r.1 undef := by
  obtain ⟨kt, e, hu, hKD⟩ := key_desc hkk
  simp only [evE, ob_some, bf_some] at he
  obtain ⟨um, hum, uk, huk, pk, hpk, hkind, he⟩ := he
  have hkind := Nat.eq_of_beq_eq_true hkind
  have hrm := hc.opd hm hum
  have hrk := hc.opd hk huk
  rw [asP_some hpk] at hrk
  cases hrk.1 with | p _ _ hpk' =>
  rw [← hkind] at hKD
  have hck : ∀ e, (Instr.checkKey e 10000 kt (a.eval k)).run P w = .ok () w := fun e => checkKey_ok hKD hpk' e 9998
  generalize a.eval m = xm at hrm ⊢
  rcases mapCases_some he with ⟨id, rfl, he⟩ | ⟨rfl, he⟩ <;> try (cases he; done)
  obtain ⟨o, ho, he⟩ := ob_some.1 he
  obtain ⟨o', l, l', h1, h2, hdel, rfl⟩ : ∃ o' l l', MapO o l ∧ MapO o' l' ∧ delK pk l = some l' ∧ r = (undefA, Mem.upd ⟨nx, objs⟩ id o') := by
    rcases asMapO he with ⟨l, rfl, he⟩ | ⟨l, rfl, he⟩
    · obtain ⟨l', hl', he⟩ := ob_some.1 he
      cases he
      exact ⟨_, vals l, vals l', .inl ⟨l, rfl, rfl⟩, .inl ⟨l', rfl, rfl⟩, delK_pure hl', rfl⟩
    · obtain ⟨l', hl', he⟩ := ob_some.1 he
      cases he
      exact ⟨_, l, l', .inr rfl, .inr rfl, hl', rfl⟩
  refine ⟨rfl, ?_⟩
  cases hrm.1
  have hal : Alive objs id o := ⟨ho, h1.alive⟩
  obtain ⟨es, ck, hb, hsz, hes⟩ := h1.rel.1 (hS.rel id o hal)
  have hrefs : ∀ (i : Nat) (p : PV) (v : AV), l[i]? = some (p, v) → Below B v := fun i p v hi r hr => hS.refs id o hal r ((h1.refs r).2 (refsM_get hi hr))
  have hrl : ∀ q ∈ l, ∀ r ∈ refs q.2, B r := fun q hq r hr => by
    obtain ⟨i, hi⟩ := List.mem_iff_getElem?.1 hq
    exact hrefs i q.1 q.2 hi r hr
  have tup : (.tuple #[] : Value) = undef := rfl
  rcases delK_ok (G := G) hKD hpk' l es.toList 0 l' (by simpa using hsz.1.symm) (fun j p v e h1 h2 => hes j p v e h1 (by simpa using h2)) hdel with ⟨hf, rfl⟩ | ⟨j, en, hf, hj, rfl⟩
  · refine ⟨_, G, ?_, map_upd (ck' := ck) hS ho h1 h2 hb hsz (fun i p v e h3 h4 => ⟨(hes i p v e h3 h4).1, (hes i p v e h3 h4).2, hrefs i p v h3⟩) (fun r hr => ?_), R.undef⟩
    · simp [Builtin.delete_, ht, run_und w hu, MapKept.run_getObj_map hb, hck, FindAt.run hf, MapKept.run_setObj_map _ hb, undef]
    · obtain ⟨q, hq, hr⟩ := refsM_mem.1 hr
      exact hrl q hq r hr
  · rw [Nat.zero_add] at hf
    have hj' : j < es.size := by simpa using hj
    refine ⟨_, G, ?_, map_upd (es' := es.eraseIdxIfInBounds j) (ck' := ck) hS ho h1 h2 hb ?_ (fun i p v e h3 h4 => ?_) (fun r hr => ?_), R.undef⟩
    · simp [Builtin.delete_, ht, run_und w hu, MapKept.run_getObj_map hb, hck, FindAt.run hf, MapKept.run_setObj_map _ hb, undef]
    · have := hsz.1
      rw [List.length_eraseIdx, if_pos (by omega)]
      exact hsz.erase j hj'
    · have h4 : (es.toList.eraseIdx j)[i]? = some e := by
        rw [Array.eraseIdxIfInBounds, dif_pos hj'] at h4
        have e2 : (es.eraseIdx j hj').toList = es.toList.eraseIdx j := Array.toList_eraseIdx
        rw [← e2, Array.getElem?_toList]
        exact h4
      rw [List.getElem?_eraseIdx] at h3 h4
      by_cases hij : i < j
      · rw [if_pos hij] at h3 h4
        have h4 : es[i]? = some e := by simpa using h4
        exact ⟨(hes i p v e h3 h4).1, (hes i p v e h3 h4).2, hrefs i p v h3⟩
      · rw [if_neg hij] at h3 h4
        have h4 : es[i + 1]? = some e := by simpa using h4
        exact ⟨(hes _ p v e h3 h4).1, (hes _ p v e h3 h4).2, hrefs _ p v h3⟩
    · obtain ⟨q, hq, hr⟩ := refsM_mem.1 hr
      exact hrl q (List.mem_of_mem_eraseIdx hq) r hr
/-! ### New slices -/
theorem rep_flat {z : List AV} : ∀ n, (List.replicate n z).flatten.length = n * z.length
  | 0 => by simp
  | n + 1 => by simp [List.replicate_succ, rep_flat n, Nat.add_mul]; omega
theorem eok_make (hS : St objs B G w) (hc : Cx ρ fr env a w (Own objs G) G B) {t e : TypeId} {z : List AV} {l c : Operand} {ol oc : Opd} {nx : Nat} {r : AV × Mem} (ht : elemT P t = some e) (hz : zeroA P e = some z) (h0 : ¬ z.length = 0) (hbytes : ¬ P.bytesOf e > 2 ^ 20) (hl : opdC ρ l = some ol) (hcc : opdC ρ c = some oc)
    (hB : ¬ B nx) (he : evE (.mkslice z ol oc) fr env ⟨nx, objs⟩ = some r) :
    r.2.next = nx + 1 ∧ ∃ x w' G', (Instr.makeSlice t (a.eval l) (a.eval c)).run P w = .ok x w' ∧ Post objs B G w r.2.objs (fun i => B i ∨ i = nx) G' w' ∧ R w' (Own r.2.objs G') G' (fun i => B i ∨ i = nx) r.1 x := by
  obtain ⟨ie, zv, hie, hzv, hzr, hzc, hzl⟩ := zeroA_ok hz w (Own objs G) G B
  have hu : P.underlying t = some (.slice e) := by
    unfold elemT at ht
    split at ht <;> cases ht
    assumption
  simp only [evE, ob_some, bf_some] at he
  obtain ⟨ul, hul, uc, huc, nl, hnl, nc, hnc, heq, hlt, he⟩ := he
  have heq := Nat.eq_of_beq_eq_true heq
  subst heq
  have hlt : nl < 16777216 := Nat.le_of_ble_eq_true hlt
  cases he
  refine ⟨rfl, ?_⟩
  have hrl := hc.opd hl hul
  have hrc := hc.opd hcc huc
  obtain ⟨kl, rfl⟩ := asN_some hnl
  obtain ⟨kc, rfl⟩ := asN_some hnc
  rw [hrl.int, hrc.int]
  have hsize : ie.size = z.length := by rw [hzl]; simp [Program.cellsOf, hie]
  have hzs : zv.cells.size = z.length := by have := hzr.1; simpa using this.symm
  have hby : ie.bytes ≤ 1048576 := by
    have : P.bytesOf e = ie.bytes := by simp [Program.bytesOf, hie]
    omega
  have hb2 : (ie.bytes : Int) * (nl : Int) ≤ 281474976710656 := by
    have : ie.bytes * nl ≤ 1048576 * 16777216 := Nat.mul_le_mul hby (by omega)
    have h3 : ((ie.bytes * nl : Nat) : Int) ≤ 281474976710656 := by omega
    rwa [Int.natCast_mul] at h3
  have hrun := run_make (P := P) w t e ie zv hu hie hzv kl kc (nl : Int) (nl : Int) (by omega) (Int.le_refl _) hb2 (by omega)
  simp only [Int.toNat_natCast] at hrun
  have hlen : ∀ d ∈ List.replicate nl z, d.length = z.length := fun d hd => by rw [(List.mem_replicate.1 hd).2]
  obtain ⟨hflat, hcell⟩ := flat_of (w := w) (G := G) (B := B) (O := Own objs G) (es := List.replicate nl z) (s := z.length) (ys := (madeCells zv.cells (nl * ie.size)).toList) (by omega) hlen (by simp [size_madeCells, hsize]) (by
    intro i d j v x hi hj hx
    rw [List.getElem?_replicate] at hi
    split at hi <;> cases hi
    rename_i hin
    have hjs : j < z.length := (List.getElem?_eq_some_iff.1 hj).1
    have hlt2 : i * z.length + j < nl * z.length := by
      have := Nat.mul_le_mul_right z.length (show i + 1 ≤ nl from hin)
      rw [Nat.add_mul] at this
      omega
    have hmod : (i * z.length + j) % z.length = j := by rw [Nat.add_comm, Nat.add_mul_mod_self_right]; exact Nat.mod_eq_of_lt hjs
    have hj' : j < zv.cells.size := by omega
    have hx' : zv.cells[j]? = some x := by
      simp [madeCells, hsize, hlt2, hzs, hmod, hj'] at hx
      rw [Array.getElem?_eq_getElem hj', ← hx, getElem!_pos zv.cells j hj']
    exact ⟨hzr.2 j v x hj (by simpa using hx'), hzc x (List.mem_of_getElem? (by simpa using hx' : zv.cells.toList[j]? = some x))⟩)
  have hw := alloc_at w (.cells (madeCells zv.cells (nl * ie.size)) e)
  have hp := new_row hS hB (by omega) hlen hflat hcell hw (alloc_ev w _) (fun j y hy => by simpa using hy) (by simp) (.inr rfl)
  refine ⟨_, _, _, hrun, hp, ?_, fun r hr => .inr (by simpa using hr)⟩
  have := AVRel.row (w := w.alloc (.cells (madeCells zv.cells (nl * ie.size)) e)) (O := Own ((nx, mkRow (List.replicate nl z)) :: objs) (updG G nx ⟨w.heap.size, 0, z.length⟩)) (G := updG G nx ⟨w.heap.size, 0, z.length⟩) nx (len z) 0 nl nl _ e (by simp [updG]) (Nat.le_refl _) (by simpa [updG] using hw) (by simp [updG, size_madeCells, hsize])
  simpa [updG] using this
end
end Go.Ab
namespace Go.Ab
set_option maxRecDepth 8000
set_option linter.unusedVariables false
set_option linter.unusedSimpArgs false
section
variable {P : Program} {objs : Objs} {B : Nat → Prop} {G : Gm} {w w' : World} {ρ : Rho} {fr : Fr} {env : List AV} {a : Act}
/-- An object goes, another one takes its block. -/
theorem move_ok (hS : St objs B G w) {id q : Nat} {o o' : Ob} (ho : Alive objs id o) (hq : ¬ B q) {l : Loc} (hl : l.b = (G id).b) (hM : Ev (Mut objs G) w w') (hk : ∀ b, b ≠ (G id).b → b < w.heap.size → w'.heap[b]? = w.heap[b]?)
    (hR : ∀ O' G', (∀ v x, R w (Own objs G) G B v x → AVRel w' O' G' v x) → ORel w' O' G' l o') (hrefs : ∀ r ∈ refsO o', B r) :
    Post objs B G w ((q, o') :: setO id .dead objs) (fun r => B r ∨ r = q) (updG G q l) w' := by
  have hE := hM.up
  have hGq : (updG G q l) q = l := by simp [updG]
  have hGo : ∀ r, B r → (updG G q l) r = G r := fun r hr => by
    have : r ≠ q := fun h => hq (h ▸ hr)
    simp [updG, this]
  have cases' : ∀ j o'', Alive ((q, o') :: setO id .dead objs) j o'' → (j = q ∧ o'' = o') ∨ (j ≠ q ∧ j ≠ id ∧ Alive objs j o'') := by
    intro j o'' h
    rcases alive_cons h with h | ⟨hne, h⟩
    · exact .inl h
    · rcases alive_set ho.1 h with ⟨_, h2⟩ | ⟨h1, h2⟩
      · exact absurd h2 h.2
      · exact .inr ⟨hne, h1, h2⟩
  have hown : ∀ b, b < w.heap.size → Own ((q, o') :: setO id .dead objs) (updG G q l) b → Own objs G b := by
    rintro b hb (hx | ⟨j, o'', hal, hb'⟩)
    · exact .inl hx
    rcases cases' j o'' hal with ⟨rfl, rfl⟩ | ⟨h1, h2, h3⟩
    · rw [hGq, hl] at hb'
      exact .inr ⟨id, o, ho, hb'⟩
    · exact .inr ⟨j, o'', h3, by rw [← hGo j (hS.lt j o'' h3).1]; exact hb'⟩
  have hval : ∀ v x, AVRel w (Own objs G) G v x → Below B v → AVRel w' (Own ((q, o') :: setO id .dead objs) (updG G q l)) (updG G q l) v x := fun v x h hb => h.mono hE hown fun r hr => hGo r (hb r hr)
  refine { st := ?_, ev := hM, same := rfl, next := fun r hr => .inl hr, agree := hGo, own := hown }
  refine { lt := ?_, inj := ?_, rel := ?_, refs := ?_, apart := ?_, ltX := fun b hb => Nat.lt_of_lt_of_le (hS.ltX b hb) hE.size, wf := ?_ }
  · intro j o'' hal
    rcases cases' j o'' hal with ⟨rfl, rfl⟩ | ⟨h1, h2, h3⟩
    · exact ⟨.inr rfl, by rw [hGq, hl]; exact Nat.lt_of_lt_of_le (hS.lt _ _ ho).2 hE.size⟩
    · have := hS.lt j o'' h3
      exact ⟨.inl this.1, by rw [hGo j this.1]; exact Nat.lt_of_lt_of_le this.2 hE.size⟩
  · intro j o1 j' o2 h1 h2 he
    rcases cases' j o1 h1 with ⟨e1, _⟩ | ⟨n1, n2, k1⟩ <;> rcases cases' j' o2 h2 with ⟨e2, _⟩ | ⟨m1, m2, k2⟩
    · rw [e1, e2]
    · rw [e1, hGq, hGo j' (hS.lt _ _ k2).1, hl] at he
      exact absurd (hS.inj _ _ _ _ ho k2 he).symm m2
    · rw [e2, hGq, hGo j (hS.lt _ _ k1).1, hl] at he
      exact absurd (hS.inj _ _ _ _ k1 ho he) n2
    · rw [hGo j (hS.lt _ _ k1).1, hGo j' (hS.lt _ _ k2).1] at he
      exact hS.inj _ _ _ _ k1 k2 he
  · intro j o'' hal
    rcases cases' j o'' hal with ⟨rfl, rfl⟩ | ⟨h1, h2, h3⟩
    · rw [hGq]
      exact hR _ _ fun v x h => hval v x h.1 h.2
    · rw [hGo j (hS.lt _ _ h3).1]
      have hb : (G j).b ≠ (G id).b := fun he => h2 (hS.inj _ _ _ _ h3 ho he)
      exact (hS.rel j o'' h3).keep (hk _ hb (hS.lt _ _ h3).2) (fun v x hr h => hval v x h fun r hr' => hS.refs j o'' h3 r (hr r hr')) (fun p x h => h.mono hE hown)
  · intro j o'' hal r hr
    rcases cases' j o'' hal with ⟨rfl, rfl⟩ | ⟨h1, h2, h3⟩
    · exact .inl (hrefs r hr)
    · exact .inl (hS.refs j o'' h3 r hr)
  · intro j o'' hal hx
    rcases cases' j o'' hal with ⟨rfl, rfl⟩ | ⟨h1, h2, h3⟩
    · rw [hGq, hl] at hx
      exact hS.apart _ _ ho hx
    · rw [hGo j (hS.lt _ _ h3).1] at hx
      exact hS.apart _ _ h3 hx
  · intro j o'' h
    rw [getO_cons, getO_setO] at h
    split at h
    · exact .inr ‹_›
    · split at h
      · rename_i hj
        subst hj
        exact .inl (hS.wf j o ho.1)
      · exact .inl (hS.wf j o'' h)
/-- An object goes. -/
theorem kill_ok (hS : St objs B G w) {id : Nat} {o : Ob} (ho : Alive objs id o) : Post objs B G w (setO id .dead objs) B G w :=
  upd_ok hS ho (.refl _ _) (fun _ _ _ => rfl) (fun h => absurd rfl h) (by intro r hr; cases hr)
theorem sizeO_view {o : Ob} {es : List (List AV)} (h : view o = some es) : sizeO o = es.length := by
  cases o with
  | pr es' => rw [view_pr] at h; cases h; simp [sizeO, lift]
  | cells es' => cases h; simp [sizeO]
  | pmap m => cases h
  | map m => cases h
  | dead => cases h
theorem appendO_view {x y z : Ob} {ex ey : List (List AV)} (hx : view x = some ex) (hy : view y = some ey) (h : appendO x y = some z) : view z = some (ex ++ ey) := by
  have e : mapL (AV.p) = List.map AV.p := funext fun l => mapL_eq _ l
  cases x <;> cases y <;> first | (cases hx; done) | (cases hy; done) | skip
  · rw [view_pr] at hx hy; cases hx; cases hy; cases h; rw [view_pr]; simp [lift]
  · rw [view_pr] at hx; cases hx; cases hy; cases h; simp [view, lift, e]
  · rw [view_pr] at hy; cases hx; cases hy; cases h; simp [view, lift, e]
  · cases hx; cases hy; cases h; simp [view]
theorem sizedO_view {s : Nat} {o : Ob} {es : List (List AV)} (hv : view o = some es) (h : sizedO s o = true) : es = [] ∨ ∃ c l, es = c :: l ∧ c.length = s := by
  cases o with
  | pr es' =>
    rw [view_pr] at hv
    cases hv
    cases es' with
    | nil => exact .inl rfl
    | cons c l => exact .inr ⟨_, _, rfl, by simpa using sized_cons (show sized s (c :: l) = true from h)⟩
  | cells es' =>
    cases hv
    cases es with
    | nil => exact .inl rfl
    | cons c l => exact .inr ⟨_, _, rfl, sized_cons (show sized s (c :: l) = true from h)⟩
  | pmap m => cases hv
  | map m => cases hv
  | dead => cases hv
end
end Go.Ab
namespace Go.Ab
set_option maxRecDepth 8000
set_option linter.unusedVariables false
set_option linter.unusedSimpArgs false
section
variable {P : Program} {objs : Objs} {B : Nat → Prop} {G : Gm} {w w' : World} {ρ : Rho} {fr : Fr} {env : List AV} {a : Act}
theorem elemsOf_len {v : AV} {o : Ob} (h : elemsOf objs v = some o) : (∃ s, v = .p (.str s)) ∨ ∃ n, lenS v = some n := by
  cases v with
  | p q => cases q <;> first | exact .inl ⟨_, rfl⟩ | exact .inr ⟨_, rfl⟩ | cases h
  | nils => exact .inr ⟨_, rfl⟩
  | lit es => exact .inr ⟨_, rfl⟩
  | row id s i n => exact .inr ⟨_, rfl⟩
  | _ => cases h
theorem src_ok (hS : St objs B G w) {v : AV} {x : Value} {o : Ob} {s : Nat} {u : TypeId} (hr : R w (Own objs G) G B v x) (he : elemsOf objs v = some o) (hk : (∃ e', P.underlying u = some (.slice e')) ∨ P.underlying u = some .string) (hs : sizeO o = 0 ∨ sizedO s o = true) :
    ∃ es news, view o = some es ∧ Src P s u x es.length news w ∧ RL w (Own objs G) G B es.flatten news ∧ AllCell news ∧ ∀ c ∈ es, c.length = s := by
  rcases elemsOf_len he with ⟨st, rfl⟩ | ⟨n, hn⟩
  · cases he
    obtain ⟨b, rfl, rfl⟩ := hr.str
    have hlen : (lift (bytes (b.data.toList.map UInt8.toNat))).length = b.size := by simp [lift, bytes]
    have hflat : (lift (bytes (b.data.toList.map UInt8.toNat))).flatten = b.data.toList.map fun c => AV.p (.int .u8 (c.toNat : Int)) := by
      simp only [lift, bytes, mapL_eq, List.map_map]
      induction b.data.toList with
      | nil => rfl
      | cons c l ih => simp at ih ⊢; exact ih
    have hRL : RL w (Own objs G) G B (lift (bytes (b.data.toList.map UInt8.toNat))).flatten (byteCells b) := by
      rw [hflat]
      refine ⟨by simp [byteCells], fun i v x h1 h2 => ?_⟩
      simp only [byteCells, List.getElem?_map, Option.map_eq_some_iff] at h1 h2
      obtain ⟨c, hc, rfl⟩ := h1
      obtain ⟨c', hc', rfl⟩ := h2
      rw [hc] at hc'; cases hc'
      exact R.pi .u8 _
    have hone : AllCell (byteCells b) := fun u hu => by
      obtain ⟨_, _, rfl⟩ := List.mem_map.1 hu
      rfl
    refine ⟨_, byteCells b, view_pr _, ?_, hRL, hone, fun c hc => ?_⟩
    · rw [hlen]
      rcases hs with h | h
      · have hb0 : b.size = 0 := by
          rw [sizeO_view (view_pr _), hlen] at h
          exact h
        have hbc : byteCells b = [] := List.length_eq_zero_iff.1 (by rw [byteCells_length]; exact hb0)
        rw [hb0, hbc]
        exact ⟨hk, fun w' => by simp [Builtin.lenOf, hb0], by simp [Builtin.firstCells], by simp [Builtin.firstCells], by simp, by simp⟩
      · rcases sizedO_view (view_pr _) h with h | ⟨c, l, h, hcs⟩
        · have hb0 : b.size = 0 := by rw [← hlen, h]; rfl
          have hbc : byteCells b = [] := List.length_eq_zero_iff.1 (by rw [byteCells_length]; exact hb0)
          rw [hb0, hbc]
          exact ⟨hk, fun w' => by simp [Builtin.lenOf, hb0], by simp [Builtin.firstCells], by simp [Builtin.firstCells], by simp, by simp⟩
        · have hc1 : c.length = 1 := by
            have : c ∈ lift (bytes (b.data.toList.map UInt8.toNat)) := by rw [h]; simp
            simp only [lift, bytes, mapL_eq, List.map_map, List.mem_map] at this
            obtain ⟨k, _, rfl⟩ := this
            rfl
          have : s = 1 := by omega
          subst this
          exact ⟨hk, fun w' => by simp [Builtin.lenOf], firstCells_string b w, firstCells_string b w.drew, by rw [byteCells_length, Nat.mul_one], hone⟩
    · have hc1 : c.length = 1 := by
        simp only [lift, bytes, mapL_eq, List.map_map, List.mem_map] at hc
        obtain ⟨k, _, rfl⟩ := hc
        rfl
      rcases hs with h | h
      · rw [sizeO_view (view_pr _)] at h
        rw [List.length_eq_zero_iff.1 h] at hc
        cases hc
      · rcases sizedO_view (view_pr _) h with h | ⟨d, l, h, hcs⟩
        · rw [h] at hc; cases hc
        · have : d ∈ lift (bytes (b.data.toList.map UInt8.toNat)) := by rw [h]; simp
          simp only [lift, bytes, mapL_eq, List.map_map, List.mem_map] at this
          obtain ⟨k, _, rfl⟩ := this
          rw [hc1, ← hcs]
          rfl
  · obtain ⟨es, ad, cap, hv, hlen, rfl, hcap, hpl⟩ := elems_ok hS hr hn he
    have empty : es = [] → ∃ es news, view o = some es ∧ Src P s u (.slice ad n cap) es.length news w ∧ RL w (Own objs G) G B es.flatten news ∧ AllCell news ∧ ∀ c ∈ es, c.length = s := by
      rintro rfl
      simp at hlen
      subst hlen
      refine ⟨[], [], hv, ⟨hk, fun _ => rfl, ?_, ?_, by simp, by simp⟩, .nil, by intro x hx; simp at hx, by simp⟩
      · cases ad with
        | none => exact run_firstCells_none w s 0 0 cap
        | some ad => exact run_firstCells_some w s 0 ad 0 cap [] (by simp) (by simp)
      · cases ad with
        | none => exact run_firstCells_none w.drew s 0 0 cap
        | some ad => exact run_firstCells_some w.drew s 0 ad 0 cap [] (by simp) (by simp)
    rcases hpl with h | ⟨b, base, s', rfl, hels⟩
    · exact empty h
    · by_cases hes : es = []
      · exact empty hes
      · have hss : s' = s := by
          rcases hs with h | h
          · rw [sizeO_view hv] at h
            exact absurd (List.length_eq_zero_iff.1 h) hes
          · rcases sizedO_view hv h with h | ⟨c, l, rfl, hcs⟩
            · exact absurd h hes
            · obtain ⟨xs, _, _, h3, _⟩ := hels 0 c (by simp)
              omega
        subst hss
        obtain ⟨ys, k1, k2, k3, k4⟩ := hels.flat
        have hcell : ∀ (j : Nat) (v : Value), ys[j]? = some v → w.cell? ((⟨b, base, none⟩ : Addr).add j) = some v := fun j v hj => by rw [add_at]; exact k3 j v hj
        refine ⟨es, ys, hv, ⟨hk, fun _ => by rw [hlen]; rfl, ?_, ?_, k4, k2⟩, k1, k2, fun c hc => ?_⟩
        · exact run_firstCells_some w s' es.length _ n cap ys k4 hcell
        · exact run_firstCells_some w.drew s' es.length _ n cap ys k4 (fun j v hj => by simpa using hcell j v hj)
        · obtain ⟨i, hi⟩ := List.mem_iff_getElem?.1 hc
          obtain ⟨_, _, _, h3, _⟩ := hels i c hi
          exact h3
end
end Go.Ab
namespace Go.Ab
set_option maxRecDepth 8000
set_option linter.unusedVariables false
set_option linter.unusedSimpArgs false
section
variable {P : Program} {objs : Objs} {B : Nat → Prop} {G : Gm} {w w' : World} {ρ : Rho} {fr : Fr} {env : List AV} {a : Act}
theorem run_append_at {t tx ty e : TypeId} {i : TypeInfo} (ht : P.underlying t = some (.slice e)) (hi : P.info? e = some i) {b off sLen sCap : Nat} {x : Value} {n : Nat} {news : List Value} (hs : Src P i.size tx x n news w)
    (hroom : sLen + n ≤ sCap) {c : Array Value} {e' : TypeId} (hg : w.heap[b]? = some (.cells c e' (0, 0))) (hfit : off + sLen * i.size + news.length ≤ c.size) :
    (Builtin.append_ #[t, tx] ty #[.slice (some ⟨b, off, none⟩) sLen sCap, x]).run P w =
      .ok (.slice (some ⟨b, off, none⟩) (sLen + n) sCap) (w.setRow b (c.toList.take (off + sLen * i.size) ++ news ++ c.toList.drop (off + sLen * i.size + news.length)).toArray) := by
  have hst := run_storeCells_at (P := P) b (off + sLen * i.size) e' news 0 c w hg (by simpa using hfit) hs.one
  simp only [Nat.add_zero] at hst
  rcases hs.kind with ⟨e'', hk⟩ | hk <;> simp [Builtin.append_, run_underlying ht, run_underlying hk, sizeOf, typeInfo, hi, hs.len, hroom, hs.cells, Addr.add_lit, hst]
theorem cell_row {b o : Nat} {c : Array Value} {e : TypeId} {f : Nat × Nat} (hg : w.heap[b]? = some (.cells c e f)) {x : Value} (h : w.cell? ⟨b, o, none⟩ = some x) : c[o]? = some x := by
  simpa [World.cell?, hg] using h
/-- What holds no cells stays as it is; what is new are cells. -/
structure Wk (w w' : World) : Prop where
  keep : ∀ (b : Nat) (o : Obj), w.heap[b]? = some o → (∀ c e f, o ≠ .cells c e f) → w'.heap[b]? = some o
  new : ∀ (b : Nat), w.heap.size ≤ b → b < w'.heap.size → ∃ c e f, w'.heap[b]? = some (.cells c e f)
/-- Room is left: the elements come behind the others, in place. -/
theorem append_in (hS : St objs B G w) {id i n q m s cap : Nat} {oa e : Ob} {ea eb : List (List AV)} {x : Value} {t tx ty el : TypeId} {ti : TypeInfo} {news : List Value} (hq : ¬ B q) (hid : B id)
    (ht : P.underlying t = some (.slice el)) (hti : P.info? el = some ti) (hsz : ti.size = s) (hs0 : 0 < s) {o0 : Ob} (ho : getO id objs = some o0) (hsub : subO o0 i n = some oa) (hva : view oa = some ea) (hlena : ea.length = n)
    (hlen : ∀ c ∈ ea ++ eb, c.length = s) (hve : view e = some (ea ++ eb)) (hm : eb.length = m) (hsrc : Src P s tx x m news w) (hnews : RL w (Own objs G) G B eb.flatten news) (hncell : AllCell news)
    (hG : (G id).s = s) {c : Array Value} {e' : TypeId} (hb : w.heap[(G id).b]? = some (.cells c e' (0, 0))) (hcap : (G id).o + i * s + cap * s ≤ c.size) (hroom : n + m ≤ cap) :
    ∃ x' w' G', (Builtin.append_ #[t, tx] ty #[.slice (some ⟨(G id).b, (G id).o + i * s, none⟩) n cap, x]).run P w = .ok x' w' ∧ Post objs B G w ((q, e) :: setO id .dead objs) (fun r => B r ∨ r = q) G' w' ∧
      R w' (Own ((q, e) :: setO id .dead objs) G') G' (fun r => B r ∨ r = q) (.row q s 0 (n + m)) x' ∧ Wk w w' := by
  subst hsz
  obtain ⟨es0, v1, v2, v3⟩ := subO_view hsub
  have v2 := Option.some.inj (hva.symm.trans v2)
  have hal : Alive objs id o0 := ⟨ho, view_alive v1⟩
  have hels := (elem_view hS ho v1).sub i n
  rw [← v2] at hels
  obtain ⟨olds, k1, k2, k3, k4⟩ := hels.flat
  rw [hG] at k3 k4
  have hol : olds.length = n * ti.size := by rw [k4, hlena]
  have hnl : news.length = m * ti.size := hsrc.newsLen
  have hmul : n * ti.size + m * ti.size ≤ cap * ti.size := by rw [← Nat.add_mul]; exact Nat.mul_le_mul_right _ hroom
  have hrun := run_append_at (P := P) (ty := ty) (off := (G id).o + i * ti.size) ht hti hsrc hroom hb (by omega)
  generalize hc' : (c.toList.take ((G id).o + i * ti.size + n * ti.size) ++ news ++ c.toList.drop ((G id).o + i * ti.size + n * ti.size + news.length)).toArray = c' at hrun
  have hsz' : c'.size = c.size := by rw [← hc']; simp; omega
  have hown : Mut objs G (G id).b := ⟨id, o0, hal, rfl⟩
  have hE := setRow_ev (O := Mut objs G) hb hown hsz'
  have hat := setRow_at (w := w) (cs := c') hb
  have hRL : RL w (Own objs G) G B (ea ++ eb).flatten (olds ++ news) := by rw [List.flatten_append]; exact k1.append hnews
  have hcell : AllCell (olds ++ news) := fun u hu => (List.mem_append.1 hu).elim (k2 u) (hncell u)
  have hP := move_ok (q := q) (o' := e) (w' := w.setRow (G id).b c') (l := ⟨(G id).b, (G id).o + i * ti.size, ti.size⟩) hS hal hq rfl hE (fun b hb' _ => by rw [hat, if_neg hb']) (fun O' G' hv => by
      refine row_view hve (row_of (ys := olds ++ news) (c := c') (e := e') (by rw [hat, if_pos rfl]) hs0 hlen (fun j y hj => ?_) hRL.1 (fun i v x h1 h2 => hv v x (hRL.2 i v x h1 h2)) hcell (by simp; omega))
      rw [← hc']
      by_cases hjo : j < olds.length
      · rw [List.getElem?_append_left hjo] at hj
        have := cell_row hb (k3 j y hj)
        have h3 : c.toList[(G id).o + i * ti.size + j]? = some y := by simpa using this
        have hl : (G id).o + i * ti.size + j < ((c.toList.take ((G id).o + i * ti.size + n * ti.size))).length := by simp; omega
        rw [List.getElem?_toArray, List.append_assoc, List.getElem?_append_left hl, List.getElem?_take_of_lt (by omega)]
        exact h3
      · rw [List.getElem?_append_right (by omega)] at hj
        have hjn := (List.getElem?_eq_some_iff.1 hj).1
        have hl : ((c.toList.take ((G id).o + i * ti.size + n * ti.size))).length = (G id).o + i * ti.size + n * ti.size := by simp; omega
        rw [List.getElem?_toArray, List.append_assoc, List.getElem?_append_right (by rw [hl]; simp only []; omega), List.getElem?_append_left (by rw [hl]; simp only []; omega), hl]
        rw [← hj]
        congr 1
        simp only []
        omega)
    (fun r hr => by
      have := (refsO_view hve r).1 hr
      rw [refsLL_flatten] at this
      exact hRL.below r this)
  refine ⟨_, _, _, hrun, hP, ⟨?_, fun r hr => .inr (by simpa using hr)⟩, fun b' o' ho' hno => ?_, fun b' h1 h2 => ?_⟩
  rotate_left
  · rw [hat, if_neg (by rintro rfl; rw [hb] at ho'; cases ho'; exact hno _ _ _ rfl)]
    exact ho'
  · exfalso
    have : (w.setRow (G id).b c').heap.size = w.heap.size := by simp [World.setRow]
    omega
  have := AVRel.row (w := w.setRow (G id).b c') (O := Own ((q, e) :: setO id .dead objs) (updG G q ⟨(G id).b, (G id).o + i * ti.size, ti.size⟩)) (G := updG G q ⟨(G id).b, (G id).o + i * ti.size, ti.size⟩) q ti.size 0 (n + m) cap c' e'
    (by simp [updG]) hroom (by simp [updG, hat]) (by simp [updG]; omega)
  simpa [updG] using this
/-- No room is left: a new row. -/
theorem append_new (hS : St objs B G w) {n q m cap : Nat} {e : Ob} {ea eb : List (List AV)} {x : Value} {t tx ty el : TypeId} {ti : TypeInfo} {z : Value} {base : Option Addr} {olds news : List Value} (hq : ¬ B q)
    (ht : P.underlying t = some (.slice el)) (hti : P.info? el = some ti) (hs0 : 0 < ti.size) (hz : ti.zero = some z) (hzs : z.cells.size = ti.size) (hby : ti.bytes ≤ 1048576)
    (hlena : ea.length = n) (hlen : ∀ c ∈ ea ++ eb, c.length = ti.size) (hve : view e = some (ea ++ eb)) (hm : eb.length = m) (hsrc : Src P ti.size tx x m news w) (hnews : RL w (Own objs G) G B eb.flatten news) (hncell : AllCell news)
    (hol : olds.length = n * ti.size) (holds : RL w (Own objs G) G B ea.flatten olds) (hocell : AllCell olds) (hold : (Builtin.firstCells ti.size n (.slice base n cap)).run P w.drew = .ok olds.toArray w.drew) (hbig : n + m < 16777216) (hgrow : cap < n + m) :
    ∃ x' w' G', (Builtin.append_ #[t, tx] ty #[.slice base n cap, x]).run P w = .ok x' w' ∧ Post objs B G w ((q, e) :: objs) (fun r => B r ∨ r = q) G' w' ∧
      R w' (Own ((q, e) :: objs) G') G' (fun r => B r ∨ r = q) (.row q ti.size 0 (n + m)) x' ∧ Wk w w' := by
  have hfit := growslice_fits (need := n + m) (old := cap) (bytes := ti.bytes) hgrow (by
    have : (n + m) * ti.bytes ≤ 16777216 * 1048576 := Nat.mul_le_mul (by omega) hby
    omega)
  have hrun := run_append_grow_src (P := P) w t tx ty el ti z ht hti hz base n cap olds hold x m news hsrc hgrow (by omega) hfit
  have hge := grownCap_ge w (n + m) cap el
  generalize grownCap w (n + m) cap el = gc at hrun hge
  generalize hc' : ((olds ++ news).toArray ++ Builtin.zeroCells z.cells (gc - (n + m))) = c' at hrun
  have hnl : news.length = m * ti.size := hsrc.newsLen
  have hcs : c'.size = gc * ti.size := by
    rw [← hc']
    simp [size_zeroCells, hol, hnl, hzs]
    rw [← Nat.add_mul, ← Nat.add_mul]
    congr 1
    omega
  have hE : Ev (fun _ => False) w (w.drew.alloc (.cells c' el)) := (drew_ev w).trans (alloc_ev w.drew _) (fun _ _ h => h)
  have hw : (w.drew.alloc (.cells c' el)).heap[w.heap.size]? = some (.cells c' el (0, 0)) := alloc_at w.drew _
  have hRL : RL w (Own objs G) G B (ea ++ eb).flatten (olds ++ news) := by rw [List.flatten_append]; exact holds.append hnews
  have hcell : AllCell (olds ++ news) := fun u hu => (List.mem_append.1 hu).elim (hocell u) (hncell u)
  have hmul : n * ti.size + m * ti.size ≤ gc * ti.size := by rw [← Nat.add_mul]; exact Nat.mul_le_mul_right _ hge
  have hP := new_ok (q := q) (o := e) (w' := w.drew.alloc (.cells c' el)) (l := ⟨w.heap.size, 0, ti.size⟩) hS hq (view_alive hve) rfl (Array.getElem?_eq_some_iff.1 hw).1 hE (fun O' G' hv => by
      refine row_view hve (row_of (ys := olds ++ news) hw hs0 hlen (fun j y hj => ?_) hRL.1 (fun i v x h1 h2 => hv v x (hRL.2 i v x h1 h2)) hcell (by simp; omega))
      have hjl := (List.getElem?_eq_some_iff.1 hj).1
      rw [← hc', Array.getElem?_append_left (by simpa using hjl)]
      simpa using hj)
    (fun r hr => by
      have := (refsO_view hve r).1 hr
      rw [refsLL_flatten] at this
      exact hRL.below r this)
  refine ⟨_, _, _, hrun, hP, ⟨?_, fun r hr => .inr (by simpa using hr)⟩, fun b' o' ho' hno => ?_, fun b' h1 h2 => ?_⟩
  rotate_left
  · exact (hE.keep b' (Array.getElem?_eq_some_iff.1 ho').1 (fun h => h)).trans ho'
  · have : (w.drew.alloc (.cells c' el)).heap.size = w.heap.size + 1 := by simp
    obtain rfl : b' = w.heap.size := by omega
    exact ⟨_, _, _, hw⟩
  have := AVRel.row (w := w.drew.alloc (.cells c' el)) (O := Own ((q, e) :: objs) (updG G q ⟨w.heap.size, 0, ti.size⟩)) (G := updG G q ⟨w.heap.size, 0, ti.size⟩) q ti.size 0 (n + m) gc c' el
    (by simp [updG]) hge (by simpa [updG] using hw) (by simp [updG]; omega)
  simpa [updG] using this
end
end Go.Ab
namespace Go.Ab
set_option maxRecDepth 8000
set_option linter.unusedVariables false
set_option linter.unusedSimpArgs false
section
variable {P : Program} {objs objs' : Objs} {B B' : Nat → Prop} {G G' : Gm} {w w' : World} {ρ : Rho} {fr : Fr} {env : List AV} {a : Act}
theorem Post.r (h : Post objs B G w objs' B' G' w') {v : AV} {x : Value} (k : R w (Own objs G) G B v x) : R w' (Own objs' G') G' B' v x := ⟨h.val k.1 k.2, h.below k.2⟩
theorem Post.rl (h : Post objs B G w objs' B' G' w') {vs : List AV} {xs : List Value} (k : RL w (Own objs G) G B vs xs) : RL w' (Own objs' G') G' B' vs xs := ⟨k.1, fun i v x h1 h2 => h.r (k.2 i v x h1 h2)⟩
theorem eok_appendW (hS : St objs B G w) (hc : Cx ρ fr env a w (Own objs G) G B) {t u ty el : TypeId} {xa xb : Operand} {oa ob' : Opd} {nx : Nat} {r : AV × Mem} (ht : elemT P t = some el) (hu : (∃ e', P.underlying u = some (.slice e')) ∨ P.underlying u = some .string)
    (h0 : ¬ P.cellsOf el = 0) (hby : ¬ P.bytesOf el > 2 ^ 20) (hz : (zeroA P el).isNone = false) (hxa : opdC ρ xa = some oa) (hxb : opdC ρ xb = some ob') (hB : ¬ B nx) (he : evE (.append (P.cellsOf el) oa ob') fr env ⟨nx, objs⟩ = some r) :
    ∃ B', ((r.2.next = nx ∧ B' = B) ∨ (r.2.next = nx + 1 ∧ B' = fun i => B i ∨ i = nx)) ∧ ∃ x w' G', (Builtin.append_ #[t, u] ty #[a.eval xa, a.eval xb]).run P w = .ok x w' ∧ Post objs B G w r.2.objs B' G' w' ∧ R w' (Own r.2.objs G') G' B' r.1 x ∧ Wk w w' := by
  obtain ⟨z, hz⟩ : ∃ z, zeroA P el = some z := by cases h : zeroA P el with
    | none => rw [h] at hz; cases hz
    | some z => exact ⟨z, rfl⟩
  obtain ⟨ti, zv, hti, hzv, hzr, hzc, hzl⟩ := zeroA_ok hz w (Own objs G) G B
  have hsz : P.cellsOf el = ti.size := by simp [Program.cellsOf, hti]
  have hbt : P.bytesOf el = ti.bytes := by simp [Program.bytesOf, hti]
  rw [hsz] at he h0 hzl
  rw [hbt] at hby
  have hzs : zv.cells.size = ti.size := by have := hzr.1; rw [hzl] at this; simpa using this.symm
  have hut : P.underlying t = some (.slice el) := by
    unfold elemT at ht
    split at ht <;> cases ht
    assumption
  simp only [evE, ob_some] at he
  obtain ⟨va, hva, vb, hvb, n, hn, ea, hea, eb, heb, he⟩ := he
  have hra := hc.opd hxa hva
  have hrb := hc.opd hxb hvb
  by_cases hm0 : sizeO eb = 0
  · rw [hm0] at he
    cases he
    obtain ⟨esb, news, hvb', hsrc, hrl, hcl, hlb⟩ := src_ok (s := ti.size) hS hrb heb hu (.inl hm0)
    rw [sizeO_view hvb'] at hm0
    have := List.length_eq_zero_iff.1 hm0
    subst this
    have hn0 : news = [] := by have := hrl.1; simpa using this.symm
    subst hn0
    obtain ⟨ad, cap, hx, hle⟩ := lenS_ok hra hn
    refine ⟨B, .inl ⟨rfl, rfl⟩, a.eval xa, w, G, ?_, .refl hS, hra, fun _ _ h _ => h, fun b h1 h2 => absurd h2 (Nat.not_lt.2 h1)⟩
    rw [hx]
    exact run_append_nothing (P := P) w t u ty el ti hut hti ad n cap hle _ (hsrc)
  · have : Nat.beq (sizeO eb) 0 = false := by
      cases h : Nat.beq (sizeO eb) 0 with
      | false => rfl
      | true => exact absurd (Nat.eq_of_beq_eq_true h) hm0
    rw [this] at he
    simp only [bf_false, bf_some, ob_some] at he
    obtain ⟨hsa, hsb, hlt, e, he', hres⟩ := he
    have hlt : sizeO ea + sizeO eb < 16777216 := Nat.le_of_ble_eq_true hlt
    obtain ⟨esa, olds, hva', hsrca, hrla, hcla, hlena⟩ := src_ok (u := t) hS hra hea (.inl ⟨_, hut⟩) (.inr hsa)
    obtain ⟨esb, news, hvb', hsrc, hrl, hcl, hlenb⟩ := src_ok hS hrb heb hu (.inr hsb)
    have hve := appendO_view hva' hvb' he'
    rw [sizeO_view hva', sizeO_view hvb'] at hlt
    rw [sizeO_view hvb'] at hm0
    have hsize : sizeO e = esa.length + esb.length := by rw [sizeO_view hve]; simp
    have hlen : ∀ c ∈ esa ++ esb, c.length = ti.size := fun c hc => (List.mem_append.1 hc).elim (hlena c) (hlenb c)
    have hol : olds.length = esa.length * ti.size := hsrca.newsLen
    have mk : ∀ {objs1 : Objs} (hK : Post objs B G w objs1 B G w) {base : Option Addr} {n cap : Nat}, a.eval xa = .slice base n cap → esa.length = n → cap < n + esb.length →
        ∃ x' w' G', (Builtin.append_ #[t, u] ty #[a.eval xa, a.eval xb]).run P w = .ok x' w' ∧ Post objs B G w ((nx, e) :: objs1) (fun r => B r ∨ r = nx) G' w' ∧ R w' (Own ((nx, e) :: objs1) G') G' (fun r => B r ∨ r = nx) (.row nx ti.size 0 (n + esb.length)) x' ∧ Wk w w' := by
      intro objs1 hK base n cap hx hnl hg
      have hold := hsrca.cellsD
      rw [hx, hnl] at hold
      rw [hx]
      obtain ⟨x', w', G', q1, q2, q3⟩ := append_new (ty := ty) hK.st hB hut hti (Nat.pos_of_ne_zero h0) hzv hzs (by omega) hnl hlen hve rfl hsrc (hK.rl hrl) hcl (by rw [hol, hnl]) (hK.rl hrla) hcla hold (by omega) hg
      exact ⟨x', w', G', q1, hK.trans q2, q3⟩
    suffices hgoal : r.2.next = nx + 1 ∧ ∃ x w' G', (Builtin.append_ #[t, u] ty #[a.eval xa, a.eval xb]).run P w = .ok x w' ∧ Post objs B G w r.2.objs (fun i => B i ∨ i = nx) G' w' ∧ R w' (Own r.2.objs G') G' (fun i => B i ∨ i = nx) r.1 x ∧ Wk w w' from ⟨_, .inr ⟨hgoal.1, rfl⟩, hgoal.2⟩
    cases va with
    | nils =>
      cases hres
      refine ⟨rfl, ?_⟩
      have hx : a.eval xa = .slice none 0 0 := by generalize a.eval xa = xx at hra ⊢; cases hra.1; rfl
      cases hea
      rw [view_pr] at hva'
      cases hva'
      obtain ⟨x', w', G', q1, q2, q3⟩ := mk (.refl hS) hx rfl (by omega)
      refine ⟨x', w', G', q1, q2, ?_⟩
      rw [hsize]
      exact q3
    | lit es =>
      cases hres
      refine ⟨rfl, ?_⟩
      obtain ⟨ad, hx⟩ : ∃ ad, a.eval xa = .slice ad es.length es.length := by generalize a.eval xa = xx at hra ⊢; cases hra.1; exact ⟨_, rfl⟩
      cases hea
      rw [view_pr] at hva'
      cases hva'
      obtain ⟨x', w', G', q1, q2, q3⟩ := mk (.refl hS) hx (by simp [lift]) (by omega)
      refine ⟨x', w', G', q1, q2, ?_⟩
      rw [hsize]
      simpa [lift] using q3
    | row id s i n' =>
      have hres' : bf (Nat.beq ti.size s) (some (AV.row nx ti.size 0 (sizeO e), (⟨nx + 1, (nx, e) :: setO id .dead objs⟩ : Mem))) none = some r := hres
      rw [bf_some] at hres'
      clear hres
      obtain ⟨hss, hres⟩ := hres'
      have hss := Nat.eq_of_beq_eq_true hss
      subst hss
      cases hres
      refine ⟨rfl, ?_⟩
      obtain ⟨o0, ho, hsub⟩ := ob_some.1 (show (ob (getO id objs) fun o => subO o i n') = some ea from hea)
      obtain ⟨es0, v1, v2, v3⟩ := subO_view hsub
      have hal : Alive objs id o0 := ⟨ho, view_alive v1⟩
      have hnl : esa.length = n' := by
        have := Option.some.inj (hva'.symm.trans v2)
        rw [this]
        simp
        omega
      have hK := kill_ok hS hal
      rw [hsize, hnl]
      generalize hX : a.eval xa = X at hra
      cases hra.1 with
      | row _ _ _ _ cap c e0 hs1 hcap hb hle =>
        by_cases hroom : n' + esb.length ≤ cap
        · exact append_in (ty := ty) hS hB (hra.2 id (by simp)) hut hti rfl (Nat.pos_of_ne_zero h0) ho hsub hva' hnl hlen hve rfl hsrc hrl hcl hs1 hb hle hroom
        · rw [← hX]
          exact mk hK hX hnl (by omega)
      | row0 _ _ _ ad =>
        rw [← hX]
        exact mk hK hX hnl (by omega)
    | _ => cases hres
theorem eok_append (hS : St objs B G w) (hc : Cx ρ fr env a w (Own objs G) G B) {t u ty el : TypeId} {xa xb : Operand} {oa ob' : Opd} {nx : Nat} {r : AV × Mem} (ht : elemT P t = some el) (hu : (∃ e', P.underlying u = some (.slice e')) ∨ P.underlying u = some .string)
    (h0 : ¬ P.cellsOf el = 0) (hby : ¬ P.bytesOf el > 2 ^ 20) (hz : (zeroA P el).isNone = false) (hxa : opdC ρ xa = some oa) (hxb : opdC ρ xb = some ob') (hB : ¬ B nx) (he : evE (.append (P.cellsOf el) oa ob') fr env ⟨nx, objs⟩ = some r) :
    ∃ B', ((r.2.next = nx ∧ B' = B) ∨ (r.2.next = nx + 1 ∧ B' = fun i => B i ∨ i = nx)) ∧ ∃ x w' G', (Builtin.append_ #[t, u] ty #[a.eval xa, a.eval xb]).run P w = .ok x w' ∧ Post objs B G w r.2.objs B' G' w' ∧ R w' (Own r.2.objs G') G' B' r.1 x := by
  obtain ⟨B', hB, x, w', G', h1, h2, h3, _⟩ := eok_appendW (ty := ty) hS hc ht hu h0 hby hz hxa hxb hB he
  exact ⟨B', hB, x, w', G', h1, h2, h3⟩
end
end Go.Ab
namespace Go.Ab
set_option maxRecDepth 8000
set_option linter.unusedVariables false
set_option linter.unusedSimpArgs false
section
variable {P : Program} {objs : Objs} {B : Nat → Prop} {G : Gm} {w w' : World} {ρ : Rho} {fr : Fr} {env : List AV} {a : Act}
theorem elemT_some {t e : TypeId} (h : elemT P t = some e) : P.underlying t = some (.slice e) := by
  unfold elemT at h
  split at h
  · rename_i e' he; cases h; exact he
  · cases h
theorem data_len (b : ByteArray) : b.data.toList.length = b.size := Array.length_toList
theorem take_min (b : ByteArray) (n : Nat) : b.data.toList.take (Nat.min b.size n) = b.data.toList.take n := by
  rw [List.take_eq_take_iff, data_len]
  show min (min b.size n) b.size = min n b.size
  omega
theorem splO_view {o o' : Ob} {i : Nat} {bs : List (List PV)} (h : splO i bs o = some o') : ∃ es, view o = some es ∧ i + bs.length ≤ es.length ∧ view o' = some (es.take i ++ lift bs ++ es.drop (i + bs.length)) := by
  cases o with
  | pr es =>
    have h : bf (Nat.ble (i + len bs) (len es)) (some (Ob.pr (app (takeN es i) (app bs (dropN es (i + len bs)))))) none = some o' := h
    obtain ⟨hle, h⟩ := bf_some.1 h
    cases h
    have hle := Nat.le_of_ble_eq_true hle
    rw [len_eq, len_eq] at hle
    refine ⟨lift es, view_pr es, by simpa [lift] using hle, ?_⟩
    rw [view_pr, app_eq, app_eq, takeN_eq, dropN_eq, len_eq]
    simp [lift]
  | cells es =>
    have h : bf (Nat.ble (i + len bs) (len es)) (some (Ob.cells (app (takeN es i) (app (mapL (mapL .p) bs) (dropN es (i + len bs)))))) none = some o' := h
    obtain ⟨hle, h⟩ := bf_some.1 h
    cases h
    have hle := Nat.le_of_ble_eq_true hle
    rw [len_eq, len_eq] at hle
    refine ⟨es, rfl, hle, ?_⟩
    show some (app (takeN es i) (app (mapL (mapL .p) bs) (dropN es (i + len bs)))) = _
    rw [app_eq, app_eq, takeN_eq, dropN_eq, len_eq]
    have : mapL (mapL AV.p) bs = lift bs := by rw [mapL_eq]; simp [lift, show mapL AV.p = List.map AV.p from funext fun l => mapL_eq _ l]
    rw [this, List.append_assoc]
  | pmap m => cases h
  | map m => cases h
  | dead => cases h
theorem row_spl {O O' : Bl} {l : Loc} {es bs : List (List AV)} {i : Nat} {xs : List Value} {old : Array Value} {e : TypeId} (hr : Row w O G l es) (hs : l.s = 1) (hle : i + bs.length ≤ es.length) (hold : w.heap[l.b]? = some (.cells old e (0, 0)))
    (hxl : bs.length = xs.length) (hb1 : ∀ (j : Nat) (c : List AV) (x : Value), bs[j]? = some c → xs[j]? = some x → ∃ v, c = [v] ∧ CellV x ∧ AVRel w' O' G v x)
    (hw : w'.heap[l.b]? = some (.cells (old.toList.take (l.o + i) ++ xs ++ old.toList.drop (l.o + i + xs.length)).toArray e (0, 0)))
    (hv : ∀ v x, R w O G B v x → AVRel w' O' G v x) (hbel : ∀ r ∈ refsLL es, B r) : Row w' O' G l (es.take i ++ bs ++ es.drop (i + bs.length)) := by
  obtain ⟨c0, e0, h1, h2, h3, h4⟩ := hr
  rw [hold] at h1
  cases h1
  rw [hs, Nat.mul_one] at h3
  have hb : l.o + i + xs.length ≤ old.size := by omega
  have hget : ∀ m, (old.toList.take (l.o + i) ++ xs ++ old.toList.drop (l.o + i + xs.length)).toArray[m]? = if l.o + i ≤ m ∧ m < l.o + i + xs.length then xs[m - (l.o + i)]? else old[m]? := by
    intro m
    have := putAt_get old.toList xs (l.o + i) (by simpa using hb) m
    rw [putAt_eq] at this
    simpa using this
  have hold' : ∀ (k : Nat) (cs : List AV), es[k]? = some cs → ¬ (i ≤ k ∧ k < i + xs.length) → cs.length = l.s ∧ ∀ (j : Nat) (v : AV), cs[j]? = some v → ∃ x, (old.toList.take (l.o + i) ++ xs ++ old.toList.drop (l.o + i + xs.length)).toArray[l.o + k * l.s + j]? = some x ∧ CellV x ∧ AVRel w' O' G v x := by
    intro k cs hk hn
    obtain ⟨g1, g2⟩ := h4 k cs hk
    refine ⟨g1, fun j v hj => ?_⟩
    obtain ⟨x, k1, k2, k3⟩ := g2 j v hj
    have hj1 := (List.getElem?_eq_some_iff.1 hj).1
    refine ⟨x, ?_, k2, hv v x ⟨k3, fun r hr => hbel r (refsLL_get hk (refsL_get hj hr))⟩⟩
    rw [hget, if_neg (by rw [hs, Nat.mul_one]; omega)]
    exact k1
  refine ⟨_, e, hw, h2, ?_, fun k cs hk => ?_⟩
  · rw [hs]; simp; omega
  · by_cases c1 : k < i
    · refine hold' k cs ?_ (by omega)
      rw [List.append_assoc, List.getElem?_append_left (by simp; omega), List.getElem?_take_of_lt c1] at hk
      exact hk
    · by_cases c2 : k < i + bs.length
      · rw [List.append_assoc, List.getElem?_append_right (by simp; omega), List.getElem?_append_left (by simp; omega)] at hk
        have hki : (List.take i es).length = i := by simp; omega
        rw [hki] at hk
        have hx : (k - i) < xs.length := by omega
        obtain ⟨v, rfl, k2, k3⟩ := hb1 (k - i) cs xs[k - i] hk (List.getElem?_eq_getElem hx)
        refine ⟨by simp [hs], fun j u hj => ?_⟩
        have hj0 : j = 0 := by have := (List.getElem?_eq_some_iff.1 hj).1; simp at this; exact this
        subst hj0
        cases hj
        refine ⟨xs[k - i], ?_, k2, k3⟩
        rw [hget, if_pos (by rw [hs]; omega), hs, show l.o + k * 1 + 0 - (l.o + i) = k - i by omega]
        exact List.getElem?_eq_getElem hx
      · refine hold' k cs ?_ (by omega)
        rw [List.append_assoc, List.getElem?_append_right (by simp; omega), List.getElem?_append_right (by simp; omega), List.getElem?_drop] at hk
        have hki : (List.take i es).length = i := by simp; omega
        rw [hki, show i + bs.length + (k - i - bs.length) = k by omega] at hk
        exact hk
theorem run_copy_str (w : World) (t u ty el : TypeId) (base : Option Addr) (n cap : Nat) (b : ByteArray) (ht : P.underlying t = some (.slice el)) (h1 : P.cellsOf el = 1) :
    (Builtin.copy_ #[t, u] ty #[.slice base n cap, .string b]).run P w = (do
      if let some a := base then storeCells a ((b.data.toList.take n).map fun c => Value.int .u8 c.toNat)
      pure (goInt (Nat.min b.size n)) : Sem Value).run P w := by
  have hsz : (sizeOf el).run P w = .ok 1 w := by rw [← h1]; exact run_size0 w (by omega)
  have hd : (((b.extract 0 (Nat.min b.size n)).data.map fun b => Value.int .u8 b.toNat) : Array Value).toList = (b.data.toList.take n).map fun c => Value.int .u8 c.toNat := by
    rw [← take_min]
    simp [ByteArray.data_extract]
  have hd' : List.map (fun b => Value.int IntKind.u8 ↑b.toNat) (List.take (b.size.min n) b.data.toList) = (b.data.toList.take n).map fun c => Value.int .u8 c.toNat := by rw [take_min]
  cases base with
  | none => simp [Builtin.copy_, run_und w ht, Builtin.lenOf, hsz, Builtin.firstCells]
  | some ad =>
    simp only [Builtin.copy_, Builtin.lenOf, Builtin.firstCells]
    simp [run_und w ht, hsz, -List.map_take]
    rw [← List.map_take, hd']
theorem eok_copy (hS : St objs B G w) (hc : Cx ρ fr env a w (Own objs G) G B) {t u el ty : TypeId} {x y : Operand} {ox oy : Opd} {nx : Nat} {r : AV × Mem} (ht : P.underlying t = some (.slice el)) (h1 : P.cellsOf el = 1) (hx : opdC ρ x = some ox) (hy : opdC ρ y = some oy)
    (he : evE (.copy ox oy) fr env ⟨nx, objs⟩ = some r) : r.2.next = nx ∧ ∃ z w' G', (Builtin.copy_ #[t, u] ty #[a.eval x, a.eval y]).run P w = .ok z w' ∧ Post objs B G w r.2.objs B G' w' ∧ R w' (Own r.2.objs G') G' B r.1 z := by
  simp only [evE, ob_some] at he
  obtain ⟨d, hd, v, hv, s, hs, he⟩ := he
  have hrx := hc.opd hx hd
  have hry := hc.opd hy hv
  rw [asS_some hs] at hry
  obtain ⟨b, hb, rfl⟩ := hry.str
  rw [hb]
  unfold copyA at he
  cases d with
  | row id t' i n =>
    obtain ⟨ht', he⟩ := bf_some.1 he
    have ht' := Nat.eq_of_beq_eq_true ht'
    subst ht'
    have hbs : bytes (takeN (b.data.toList.map UInt8.toNat) n) = (b.data.toList.take n).map fun c => [PV.int .u8 (Int.ofNat c.toNat)] := by
      unfold bytes
      rw [mapL_eq, takeN_eq, ← List.map_take, List.map_map]
      rfl
    simp only at he
    rw [hbs] at he
    generalize a.eval x = xx at hrx ⊢
    cases hL : b.data.toList.take n with
    | nil =>
      rw [hL] at he
      cases he
      obtain ⟨base, cap, rfl⟩ : ∃ base cap, xx = .slice base n cap := by
        cases hrx.1 with
        | row => exact ⟨_, _, rfl⟩
        | row0 => exact ⟨_, _, rfl⟩
      have hm : Nat.min b.size n = 0 := by
        have := congrArg List.length hL
        rw [List.length_take, data_len] at this
        exact (Nat.min_comm _ _).trans this
      refine ⟨rfl, _, w, G, by rw [run_copy_str w t u ty el base n cap b ht h1, hL, hm]; cases base <;> simp [storeCells] <;> rfl, .refl hS, R.pi _ _⟩
    | cons c0 cs =>
      rw [hL] at he
      generalize hbl : c0 :: cs = bl at hL he
      have he : ob (getO id objs) (fun o => ob (splO i (bl.map fun c => [PV.int .u8 (Int.ofNat c.toNat)]) o) fun o' => some (AV.p (.int .i64 (.ofNat (len (bl.map fun c => [PV.int .u8 (Int.ofNat c.toNat)])))), (⟨nx, objs⟩ : Mem).upd id o')) = some r := by
        subst hbl
        exact he
      obtain ⟨o, ho, he⟩ := ob_some.1 he
      obtain ⟨o', ho', he⟩ := ob_some.1 he
      cases he
      refine ⟨rfl, ?_⟩
      obtain ⟨es, k1, k2, k3⟩ := splO_view ho'
      rw [List.length_map] at k2 k3
      have hal : Alive objs id o := ⟨ho, view_alive k1⟩
      have hrow := view_row k1 (hS.rel id o hal)
      have hrow' := hrow
      obtain ⟨old, e, g1, g2, g3, g4⟩ := hrow
      have hn : n ≠ 0 := by
        rintro rfl
        rw [List.take_zero] at hL
        rw [← hbl] at hL
        cases hL
      obtain ⟨cap, rfl, hsid⟩ : ∃ cap, xx = .slice (some ⟨(G id).b, (G id).o + i * 1, none⟩) n cap ∧ (G id).s = 1 := by
        cases hrx.1 with
        | row _ _ _ _ cap c e hs => exact ⟨cap, rfl, hs⟩
        | row0 => exact absurd rfl hn
      have hxs : (b.data.toList.take n).map (fun c => Value.int .u8 c.toNat) = bl.map fun c => Value.int .u8 c.toNat := by rw [hL]
      generalize hX : (bl.map fun c => Value.int .u8 c.toNat) = X at hxs
      have hXl : X.length = bl.length := by rw [← hX]; simp
      have hcell : ∀ v ∈ X, v.oneCell' = true := by
        intro v hv
        rw [← hX] at hv
        simp at hv
        obtain ⟨c, _, rfl⟩ := hv
        rfl
      have hle : (G id).o + i * 1 + 0 + X.length ≤ old.size := by
        rw [hsid, Nat.mul_one] at g3
        omega
      have hst := run_storeCells_at (P := P) (G id).b ((G id).o + i * 1) e X 0 old w g1 hle hcell
      simp only [Nat.add_zero, Nat.mul_one] at hst
      have hm : Nat.min b.size n = bl.length := by
        have := congrArg List.length hL
        rw [List.length_take, data_len] at this
        exact (Nat.min_comm _ _).trans this
      have hown : Mut objs G (G id).b := ⟨id, o, hal, rfl⟩
      have hsetsz : (old.toList.take ((G id).o + i) ++ X ++ old.toList.drop ((G id).o + i + X.length)).toArray.size = old.size := by simp; omega
      have hE := setRow_ev (O := Mut objs G) g1 hown hsetsz
      refine ⟨_, _, G, ?_, upd_ok hS hal hE (fun b hb _ => by rw [setRow_at g1, if_neg hb]) (fun hd O' hv' hp' => ?_) (fun r hr => ?_), R.pi _ _⟩
      · rw [run_copy_str w t u ty el _ n cap b ht h1, hxs, hm, Nat.mul_one]
        simp [hst, goInt, len_eq]
      · refine row_view k3 ?_
        have := row_spl (bs := lift (bl.map fun c => [PV.int .u8 (Int.ofNat c.toNat)])) (xs := X) hrow' hsid (by simpa [lift] using k2) g1 (by simp [lift, hXl]) (fun j c x hj hx => ?_) (by rw [setRow_at g1, if_pos rfl]) hv' fun r hr => hS.refs id o hal r ((refsO_view k1 r).2 hr)
        · simpa [lift] using this
        · rw [← hX] at hx
          simp [lift] at hj hx
          obtain ⟨c', h1', rfl⟩ := hj
          obtain ⟨c'', h2', rfl⟩ := hx
          rw [h1'] at h2'
          cases h2'
          exact ⟨_, rfl, rfl, .p _ _ (.int _ _)⟩
      · have hr := (refsO_view k3 r).1 hr
        refine hS.refs id o hal r ((refsO_view k1 r).2 ?_)
        rw [refsLL_mem] at hr ⊢
        obtain ⟨c, hc, v, hv, hr⟩ := hr
        rw [List.mem_append, List.mem_append] at hc
        rcases hc with (hc | hc) | hc
        · exact ⟨c, List.mem_of_mem_take hc, v, hv, hr⟩
        · simp [lift] at hc
          obtain ⟨c', _, rfl⟩ := hc
          simp at hv
          subst hv
          simp at hr
        · exact ⟨c, List.mem_of_mem_drop hc, v, hv, hr⟩
  | _ => cases he
end
end Go.Ab
namespace Go.Ab
set_option maxRecDepth 8000
set_option linter.unusedVariables false
set_option linter.unusedSimpArgs false
section
variable {P : Program} {objs : Objs} {B : Nat → Prop} {G : Gm} {w : World} {ρ : Rho} {fr : Fr} {env : List AV} {a : Act}
/-- The numbers in use behind an operation: at most one more. -/
def NextB (nx nx' : Nat) (B B' : Nat → Prop) : Prop := (nx' = nx ∧ B' = B) ∨ (nx' = nx + 1 ∧ B' = fun i => B i ∨ i = nx)
theorem does_u {s : Sem Unit} {r : AV × Mem} {nx : Nat} (h : r.2.next = nx ∧ ∃ w' G', s.run P w = .ok () w' ∧ Post objs B G w r.2.objs B G' w' ∧ R w' (Own r.2.objs G') G' B r.1 undef) :
    ∃ B', NextB nx r.2.next B B' ∧ Does P objs B G w (do s; pure .skip : Sem Next) r.1 r.2.objs B' := by
  obtain ⟨h1, w', G', h2, h3, h4⟩ := h
  exact ⟨B, .inl ⟨h1, rfl⟩, .skip, undef, w', G', by simp [h2], .inr ⟨rfl, rfl⟩, h3, h4⟩
theorem does_v {s : Sem Value} {r : AV × Mem} {nx : Nat} {B' : Nat → Prop} (hB : NextB nx r.2.next B B') (h : ∃ x w' G', s.run P w = .ok x w' ∧ Post objs B G w r.2.objs B' G' w' ∧ R w' (Own r.2.objs G') G' B' r.1 x) :
    ∃ B', NextB nx r.2.next B B' ∧ Does P objs B G w (do pure (.value (← s)) : Sem Next) r.1 r.2.objs B' := by
  obtain ⟨x, w', G', h2, h3, h4⟩ := h
  exact ⟨B', hB, .value x, x, w', G', by simp [h2], .inl rfl, h3, h4⟩
theorem eop_ok (hS : St objs B G w) (hc : Cx ρ fr env a w (Own objs G) G B) {o : Oper} {op : EOp} {nx : Nat} {r : AV × Mem} (hp : eOp P ρ o.op = some op) (hq : ¬ B nx) (he : evE op fr env ⟨nx, objs⟩ = some r) :
    ∃ B', NextB nx r.2.next B B' ∧ Does P objs B G w (execOp a.eval o) r.1 r.2.objs B' := by
  obtain ⟨dst, op', ty, q1, q2, gd⟩ := o
  replace hp : eOp P ρ op' = some op := hp
  unfold eOp at hp
  split at hp
  case h_1 t x v =>
    split at hp <;> try (cases hp; done)
    rename_i h0
    obtain ⟨o, o', h1, h2, rfl⟩ := with2_some hp
    exact does_u (eok_store hS hc h0 h1 h2 he)
  case h_2 t m k v =>
    split at hp <;> try (cases hp; done)
    rename_i kk hkk
    obtain ⟨o, o', o'', h1, h2, h3, rfl⟩ := with3_some hp
    exact does_u (eok_mapSet hS hc hkk h1 h2 h3 he)
  case h_3 t m k v =>
    split at hp <;> try (cases hp; done)
    rename_i kk hkk
    obtain ⟨o, o', o'', h1, h2, h3, rfl⟩ := with3_some hp
    exact does_u (eok_mapSet hS hc hkk h1 h2 h3 he)
  case h_4 t l c =>
    split at hp <;> try (cases hp; done)
    rename_i e ht
    split at hp <;> try (cases hp; done)
    rename_i z hz
    split at hp <;> try (cases hp; done)
    rename_i hcond
    obtain ⟨o, o', h1, h2, rfl⟩ := with2_some hp
    obtain ⟨k1, k2⟩ := eok_make hS hc ht hz (fun h => hcond (.inl h)) (fun h => hcond (.inr (.inr h))) h1 h2 hq he
    exact does_v (.inr ⟨k1, rfl⟩) k2
  case h_5 b args ts =>
    show ∃ B', _ ∧ Does P objs B G w (execOp a.eval ⟨dst, .call { callee := .builtin _, args := _, argTypes := _ }, ty, q1, q2, gd⟩) _ _ B'
    unfold Does
    rw [run_builtin]
    split at hp <;> try (cases hp; done)
    · rename_i x y hargs
      rw [hargs]
      split at hp <;> try (cases hp; done)
      rename_i t u hts
      have hts : ts = #[t, u] := by apply Array.ext'; simpa using hts
      subst hts
      split at hp <;> try (cases hp; done)
      · rename_i e e' ht hu
        split at hp <;> try (cases hp; done)
        rename_i hcond
        obtain ⟨o, o', h1, h2, rfl⟩ := with2_some hp
        obtain ⟨B', hB, k⟩ := eok_append (ty := ty) hS hc ht (.inl ⟨_, hu⟩) (fun h => hcond (.inl h)) (fun h => hcond (.inr (.inl h))) (by cases h : (zeroA P e).isNone with | false => rfl | true => exact absurd (.inr (.inr h)) hcond) h1 h2 hq he
        exact does_v hB k
      · rename_i e ht hu
        split at hp <;> try (cases hp; done)
        rename_i hcond
        obtain ⟨o, o', h1, h2, rfl⟩ := with2_some hp
        obtain ⟨B', hB, k⟩ := eok_append (ty := ty) hS hc ht (.inr hu) (fun h => hcond (.inl h)) (fun h => hcond (.inr (.inl h))) (by cases h : (zeroA P e).isNone with | false => rfl | true => exact absurd (.inr (.inr h)) hcond) h1 h2 hq he
        exact does_v hB k
    · rename_i x y hargs
      rw [hargs]
      split at hp <;> try (cases hp; done)
      rename_i t ht
      split at hp <;> try (cases hp; done)
      rename_i kk hkk
      obtain ⟨o, o', h1, h2, rfl⟩ := with2_some hp
      obtain ⟨k1, w', G', k2, k3, k4⟩ := eok_delete (ty := ty) hS hc ht hkk h1 h2 he
      exact does_v (.inl ⟨k1, rfl⟩) ⟨_, w', G', k2, k3, k4⟩
    · rename_i x y hargs
      rw [hargs]
      split at hp <;> try (cases hp; done)
      rename_i t u hts
      have hts : ts = #[t, u] := by apply Array.ext'; simpa using hts
      subst hts
      split at hp <;> try (cases hp; done)
      rename_i e ht hu
      split at hp <;> try (cases hp; done)
      rename_i h1c
      obtain ⟨o, o', h1, h2, rfl⟩ := with2_some hp
      obtain ⟨k1, z, w', G', k2, k3, k4⟩ := eok_copy (ty := ty) (u := u) hS hc (elemT_some ht) h1c h1 h2 he
      exact does_v (.inl ⟨k1, rfl⟩) ⟨_, w', G', k2, k3, k4⟩
  case h_6 => cases hp
end
end Go.Ab
