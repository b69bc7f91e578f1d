/- Slices, conversions; and all operations that leave the memory as it is, together. The elements of slices; bytes to strings; all operations that leave the memory as it is, together. All operations that leave the memory as it is, together. Objects that are made and changed. The operations that make an object. Slice literals; all operations that make an object, together. Operations that make an object, together; operations that change one. -/
import Derived.Test.YtmhjnndhphidfaaGreatA2
import Derived.Deep.AppendSrc
import Derived.Great.BuildSlice
import Derived.Laws.MakeOwn
import Derived.Lib.ConvBytes
import Derived.Carry
namespace Go.Ab
set_option maxRecDepth 8000
set_option linter.unusedVariables false
set_option linter.unusedSimpArgs false
section
variable {P : Program} {objs : Objs} {B : Nat → Prop} {G : Gm} {w : World} {ρ : Rho} {fr : Fr} {env : List AV} {a : Act}
theorem bound_ok {O : Bl} {n : Nat → Prop} (hc : Cx ρ fr env a w O G n) {x : Option Operand} {o : Option Opd} {d r y : Nat} {code : BoundsCode} (hx : optC ρ x = some o) (hb : bound o d fr env = some r) :
    (x = none ∧ r = d) ∨ ∃ q k, x = some q ∧ a.eval q = .int k (r : Int) := by
  have h := hc.opt hx
  cases x with
  | none =>
    cases o with
    | none => simp [bound] at hb; exact .inl ⟨rfl, hb.symm⟩
    | some o => exact h.elim
  | some q =>
    cases o with
    | none => exact h.elim
    | some o =>
      obtain ⟨u, hu, hn⟩ := ob_some.1 (show ob (opd o fr env) asN = some r from hb)
      obtain ⟨k, rfl⟩ := asN_some hn
      exact .inr ⟨q, k, rfl, (hc.opd h hu).int⟩
theorem bounds_ok {O : Bl} {m : Nat → Prop} (hc : Cx ρ fr env a w O G m) {lo hi : Option Operand} {lo' hi' : Option Opd} {n cap l h : Nat} (isS : Bool) (hlo : optC ρ lo = some lo') (hhi : optC ρ hi = some hi') (hl : bound lo' 0 fr env = some l) (hh : bound hi' n fr env = some h)
    (h1 : l ≤ h) (h2 : h ≤ n) (h3 : n ≤ cap) : (Instr.sliceBounds isS n cap (lo.map a.eval) (hi.map a.eval) none).run P w = .ok (l, h, cap) w := by
  have e1 := bound_ok hc (y := 0) (code := .sliceB) hlo hl
  have e2 := bound_ok hc (y := 0) (code := .sliceB) hhi hh
  have sb : ∀ (k : IntKind) (i y : Nat) (code : BoundsCode), i ≤ y → (Instr.sliceBound (.int k (i : Int)) y code).run P w = .ok i w := by
    intro k i y code hi
    have := run_sliceBound (P := P) (w := w) k (i : Int) y code (by omega) (by omega)
    simpa using this
  rcases e1 with ⟨rfl, rfl⟩ | ⟨q, k, rfl, e1⟩ <;> rcases e2 with ⟨rfl, rfl⟩ | ⟨q', k', rfl, e2⟩
  · simp [Instr.sliceBounds]
  · simp [Instr.sliceBounds, e2, sb k' h cap _ (Nat.le_trans h2 h3)]
  · simp [Instr.sliceBounds, e1, sb k l _ _ h1]
  · simp [Instr.sliceBounds, e1, e2, sb k l _ _ h1, sb k' h cap _ (Nat.le_trans h2 h3)]
theorem ok_slice0 (hc : Cx ρ fr env a w (Own objs G) G B) {t : TypeId} {x : Operand} {lo hi : Option Operand} {o : Opd} {lo' hi' : Option Opd} {v : AV} (hu : P.underlying t = some .string) (hx : opdC ρ x = some o) (hlo : optC ρ lo = some lo') (hhi : optC ρ hi = some hi')
    (he : evP (.slice 0 o lo' hi') fr env objs = some v) : ∃ y, (Instr.sliceAt t (a.eval x) (lo.map a.eval) (hi.map a.eval) none).run P w = .ok y w ∧ R w (Own objs G) G B v y := by
  simp only [evP, ob_some, bf_some] at he
  obtain ⟨u, hu', n, hn, l, hl, h, hh, h1, h2, he⟩ := he
  obtain ⟨s, hs, hn⟩ := ob_some.1 (show ob (asS u) (fun s => some (len s)) = some n from hn)
  cases hn
  obtain ⟨s', hs', he⟩ := ob_some.1 (show ob (asS u) (fun st => some (AV.p (.str (takeN (dropN st l) (h - l))))) = some v from he)
  rw [hs] at hs'; cases hs'
  cases he
  have hr := hc.opd hx hu'
  rw [asS_some hs] at hr
  obtain ⟨b, hb, rfl⟩ := hr.str
  have h1 := Nat.le_of_ble_eq_true h1
  have h2 := Nat.le_of_ble_eq_true h2
  have hbs := bounds_ok (P := P) hc (n := b.size) (cap := b.size) false hlo hhi hl (by rw [len_eq, ← str_size rfl] at hh; exact hh) h1 (by rw [len_eq, ← str_size rfl] at h2; exact h2) (Nat.le_refl _)
  rw [hb]
  refine ⟨.string (b.extract l h), ?_, R.p (.str _ _ ?_)⟩
  · simp [Instr.sliceAt, Instr.slice, run_und w hu, hbs]
  · simp [ByteArray.data_extract, List.extract_eq_take_drop, List.map_take, List.map_drop]
theorem sized_nil {α : Type} (s : Nat) : sized s ([] : List (List α)) = true := rfl
theorem sized_cons {α : Type} {s : Nat} {c : List α} {es : List (List α)} (h : sized s (c :: es) = true) : c.length = s := by
  have h : Nat.beq (len c) s = true := h
  rw [len_eq] at h
  exact Nat.eq_of_beq_eq_true h
/-- The slice of a frozen slice. -/
theorem fz_sub {O : Bl} {es : List (List PV)} {ad : Option Addr} {cap l h s : Nat} (hr : PRel w O (.fz es) (.slice ad es.length cap)) (hs : sized s es = true) (h1 : l ≤ h) (h2 : h ≤ es.length) :
    PRel w O (.fz ((es.drop l).take (h - l))) (.slice (if cap = l then ad else ad.map (·.add (l * s))) (h - l) (cap - l)) := by
  obtain ⟨ad', cap', e, hcap, hz⟩ := hr.fz_inv
  cases e
  have hlen : ((es.drop l).take (h - l)).length = h - l := by simp; omega
  by_cases h0 : h = l
  · subst h0
    simp only [Nat.sub_self, List.take_zero]
    exact .fz0 _ _
  have hlt : l < h := Nat.lt_of_le_of_ne h1 (Ne.symm h0)
  rcases hz with rfl | ⟨b, base, s', rfl, hz⟩
  · simp at h2; omega
  have hcl : ¬ cap = l := by omega
  cases es with
  | nil => simp at h2; omega
  | cons c es =>
    have e1 := sized_cons hs
    have e2 := hz.len 0 c (by simp)
    have : s = s' := e1.symm.trans e2
    subst this
    rw [if_neg hcl]
    have key : Fz w O (((c :: es).drop l).take (h - l)) b (base + l * s) s := {
      lt := hz.lt
      own := hz.own
      len := fun i d hd => by
        simp only [List.getElem?_take, List.getElem?_drop] at hd
        split at hd
        · exact hz.len _ d hd
        · cases hd
      at_ := fun i j d v hd hv => by
        simp only [List.getElem?_take, List.getElem?_drop] at hd
        split at hd
        · have := hz.at_ (l + i) j d v hd hv
          rwa [show base + (l + i) * s + j = base + l * s + i * s + j by rw [Nat.add_mul]; omega] at this
        · cases hd }
    have := key.rel (cap := cap - l) (by rw [hlen]; omega)
    rw [hlen] at this
    simpa [add_at] using this
theorem subA_cases {s l n : Nat} {x v : AV} (h : subA (s + 1) l n x = some v) :
    (∃ es, x = .p (.fz es) ∧ sized (s + 1) es = true ∧ v = .p (.fz ((es.drop l).take n))) ∨ (x = .nils ∧ v = .nils) ∨ (∃ es, x = .lit es ∧ sized (s + 1) es = true ∧ v = .p (.fz ((es.drop l).take n))) ∨
    ∃ id t i m, x = .row id t i m ∧ s + 1 = t ∧ v = .row id t (i + l) n := by
  cases x with
  | p q =>
    cases q with
    | fz es =>
      have h : bf (sized (s + 1) es) (some (AV.p (.fz (takeN (dropN es l) n)))) none = some v := h
      rw [bf_some] at h
      obtain ⟨h1, h2⟩ := h
      cases h2
      exact .inl ⟨es, rfl, h1, by simp⟩
    | _ => cases h
  | nils => cases h; exact .inr (.inl ⟨rfl, rfl⟩)
  | lit es =>
    have h : bf (sized (s + 1) es) (some (AV.p (.fz (takeN (dropN es l) n)))) none = some v := h
    rw [bf_some] at h
    obtain ⟨h1, h2⟩ := h
    cases h2
    exact .inr (.inr (.inl ⟨es, rfl, h1, by simp⟩))
  | row id t i m =>
    have h : bf (Nat.beq (s + 1) t) (some (AV.row id t (i + l) n)) none = some v := h
    rw [bf_some] at h
    obtain ⟨h1, h2⟩ := h
    cases h2
    exact .inr (.inr (.inr ⟨id, t, i, m, rfl, Nat.eq_of_beq_eq_true h1, rfl⟩))
  | _ => cases h
theorem ok_slice (hc : Cx ρ fr env a w (Own objs G) G B) {t e : TypeId} {x : Operand} {lo hi : Option Operand} {o : Opd} {lo' hi' : Option Opd} {v : AV} (hu : P.underlying t = some (.slice e)) (h0 : P.cellsOf e ≠ 0) (hx : opdC ρ x = some o) (hlo : optC ρ lo = some lo') (hhi : optC ρ hi = some hi')
    (he : evP (.slice (P.cellsOf e) o lo' hi') fr env objs = some v) : ∃ y, (Instr.sliceAt t (a.eval x) (lo.map a.eval) (hi.map a.eval) none).run P w = .ok y w ∧ R w (Own objs G) G B v y := by
  obtain ⟨s', hs'⟩ : ∃ s', P.cellsOf e = s' + 1 := ⟨P.cellsOf e - 1, by omega⟩
  simp only [evP, ob_some, bf_some] at he
  obtain ⟨u, hu', n, hn, l, hl, h, hh, h1, h2, he⟩ := he
  rw [hs'] at hn he
  have hn : lenS u = some n := hn
  have hr := hc.opd hx hu'
  obtain ⟨ad, cap, hxx, hcap⟩ := lenS_ok hr hn
  have h1 := Nat.le_of_ble_eq_true h1
  have h2 := Nat.le_of_ble_eq_true h2
  have hbs := bounds_ok (P := P) hc true hlo hhi hl hh h1 h2 hcap
  rw [hxx] at hr ⊢
  refine ⟨.slice (if cap = l then ad else ad.map (·.add (l * P.cellsOf e))) (h - l) (cap - l), ?_, ?_⟩
  · simp [Instr.sliceAt, Instr.slice, run_und w hu, hbs, run_size0 w h0]
  · rw [hs']
    obtain ⟨hr, hb⟩ := hr
    rcases subA_cases he with ⟨es, rfl, hz, rfl⟩ | ⟨rfl, rfl⟩ | ⟨es, rfl, hz, rfl⟩ | ⟨id, t', i, m, rfl, ht', rfl⟩
    · simp [lenS] at hn
      subst hn
      cases hr with | p _ _ hr => exact R.p (fz_sub hr hz h1 h2)
    · simp [lenS] at hn
      subst hn
      have : h = 0 := by omega
      subst this
      have : l = 0 := by omega
      subst this
      cases hr
      exact ⟨by simpa using AVRel.nils, by intro r hr; simp at hr⟩
    · simp [lenS] at hn
      subst hn
      cases hr with | lit _ _ hr => exact R.p (fz_sub hr hz h1 h2)
    · simp [lenS] at hn
      subst hn
      subst ht'
      refine ⟨?_, hb⟩
      cases hr with
      | row0 =>
        have : h = 0 := by omega
        subst this
        have : l = 0 := by omega
        subst this
        exact .row0 _ _ _ _
      | row _ _ _ _ _ c e' hs hcap' hb' hsz =>
        by_cases hcl : cap = l
        · have h3 : h - l = 0 := by omega
          have h4 : cap - l = 0 := by omega
          rw [h3, h4]
          exact .row0 _ _ _ _
        · rw [if_neg hcl]
          have := AVRel.row (w := w) (O := Own objs G) (G := G) id (s' + 1) (i + l) (h - l) (cap - l) c e' hs (by omega) hb' (by
            have e1 : (i + l) * (s' + 1) + (cap - l) * (s' + 1) = i * (s' + 1) + cap * (s' + 1) := by rw [← Nat.add_mul, ← Nat.add_mul]; congr 1; omega
            omega)
          simpa [add_at, Nat.add_mul, Nat.add_assoc] using this
theorem ok_conv (hc : Cx ρ fr env a w (Own objs G) G B) {s d : TypeId} {x : Operand} {o : Opd} {v : AV} {k k' : IntKind} (hs : P.underlying s = some (.int k')) (hd : P.underlying d = some (.int k)) (hx : opdC ρ x = some o) (he : evP (.conv k o) fr env objs = some v) :
    ∃ y, (convert s d (a.eval x)).run P w = .ok y w ∧ R w (Own objs G) G B v y := by
  simp only [evP, ob_some] at he
  obtain ⟨u, hu, p, hp, he⟩ := he
  cases he
  have hr := hc.opd hx hu
  rw [asI_some hp] at hr
  rw [hr.int]
  exact ⟨.int k (k.wrap p.2), by simp [convert, run_und w hs, run_und w hd, Conv.intToInt], wrapI_ok k p.2⟩
theorem ok_not (hc : Cx ρ fr env a w (Own objs G) G B) {x : Operand} {o : Opd} {v : AV} (hx : opdC ρ x = some o) (he : evP (.not o) fr env objs = some v) :
    ∃ y, (Op.unary .not (a.eval x)).run P w = .ok y w ∧ R w (Own objs G) G B v y := by
  simp only [evP, ob_some] at he
  obtain ⟨u, hu, b, hb, he⟩ := he
  cases he
  have hr := hc.opd hx hu
  rw [asB_some hb] at hr
  rw [hr.bool, nt_eq]
  exact ⟨.bool (!b), by simp [Op.unary], R.pb _⟩
theorem ok_neg (hc : Cx ρ fr env a w (Own objs G) G B) {x : Operand} {o : Opd} {v : AV} (hx : opdC ρ x = some o) (he : evP (.neg o) fr env objs = some v) :
    ∃ y, (Op.unary .neg (a.eval x)).run P w = .ok y w ∧ R w (Own objs G) G B v y := by
  simp only [evP, ob_some] at he
  obtain ⟨u, hu, p, hp, he⟩ := he
  cases he
  have hr := hc.opd hx hu
  rw [asI_some hp] at hr
  rw [hr.int]
  exact ⟨.int p.1 (p.1.wrap (0 - p.2)), by simp [Op.unary, Op.intArith], subN_ok p.1 0 p.2⟩
theorem ok_pick (hc : Cx ρ fr env a w (Own objs G) G B) {c x y : Operand} {oc o o' : Opd} {v : AV} (hcc : opdC ρ c = some oc) (hx : opdC ρ x = some o) (hy : opdC ρ y = some o') (he : evP (.pick oc o o') fr env objs = some v) :
    ∃ b, (asBool (a.eval c)).run P w = .ok b w ∧ R w (Own objs G) G B v (if b then a.eval x else a.eval y) := by
  simp only [evP, ob_some] at he
  obtain ⟨u, hu, b, hb, he⟩ := he
  have hr := hc.opd hcc hu
  rw [asB_some hb] at hr
  rw [hr.bool]
  refine ⟨b, by simp [asBool], ?_⟩
  cases b with
  | true => exact hc.opd hx he
  | false => exact hc.opd hy he
end
end Go.Ab
namespace Go.Ab
set_option maxRecDepth 8000
set_option linter.unusedVariables false
set_option linter.unusedSimpArgs false
section
variable {P : Program} {objs : Objs} {B : Nat → Prop} {G : Gm} {w : World} {ρ : Rho} {fr : Fr} {env : List AV} {a : Act}
/-- Elements that lie in a row from a place on, each of s cells. -/
def Els (w : World) (O : Bl) (G : Gm) (n : Nat → Prop) (b base s : Nat) (es : List (List AV)) : Prop :=
  ∀ (i : Nat) (c : List AV), es[i]? = some c → ∃ xs, RL w O G n c xs ∧ AllCell xs ∧ c.length = s ∧ CellsAt w b (base + i * s) xs
theorem Els.flat {O : Bl} {n : Nat → Prop} {b s : Nat} : ∀ {es : List (List AV)} {base : Nat}, Els w O G n b base s es → ∃ ys, RL w O G n es.flatten ys ∧ AllCell ys ∧ CellsAt w b base ys ∧ ys.length = es.length * s
  | [], base, h => ⟨[], .nil, by intro x hx; simp at hx, by intro j x hx; simp at hx, by simp⟩
  | c :: es, base, h => by
    obtain ⟨xs, h1, h2, h3, h4⟩ := h 0 c (by simp)
    obtain ⟨ys, k1, k2, k3, k4⟩ := Els.flat (es := es) (base := base + s) fun i d hd => by
      obtain ⟨zs, j1, j2, j3, j4⟩ := h (i + 1) d (by simpa using hd)
      exact ⟨zs, j1, j2, j3, by rwa [show base + (i + 1) * s = base + s + i * s by rw [Nat.add_mul]; omega] at j4⟩
    have hl : xs.length = s := h1.1.symm.trans h3
    refine ⟨xs ++ ys, by simpa using h1.append k1, fun x hx => (List.mem_append.1 hx).elim (h2 x) (k2 x), fun j x hx => ?_, by simp [hl, k4, Nat.add_mul]; omega⟩
    simp only [List.getElem?_append] at hx
    split at hx
    · have := h4 j x hx
      simpa using this
    · rename_i hj
      have := k3 (j - xs.length) x hx
      rwa [show base + s + (j - xs.length) = base + j by omega] at this
theorem subO_view {o o' : Ob} {i n : Nat} (h : subO o i n = some o') : ∃ es, view o = some es ∧ view o' = some ((es.drop i).take n) ∧ i + n ≤ es.length := by
  have e : mapL (AV.p) = List.map AV.p := funext fun l => mapL_eq _ l
  cases o with
  | pr es =>
    have h : bf (Nat.ble (i + n) (len es)) (some (Ob.pr (takeN (dropN es i) n))) none = some o' := h
    rw [bf_some] at h
    obtain ⟨h1, h2⟩ := h
    cases h2
    have h1 := Nat.le_of_ble_eq_true h1
    rw [len_eq] at h1
    exact ⟨es.map (·.map .p), by simp [view, e], by simp [view, e, List.map_take, List.map_drop], by simpa using h1⟩
  | cells es =>
    have h : bf (Nat.ble (i + n) (len es)) (some (Ob.cells (takeN (dropN es i) n))) none = some o' := h
    rw [bf_some] at h
    obtain ⟨h1, h2⟩ := h
    cases h2
    have h1 := Nat.le_of_ble_eq_true h1
    rw [len_eq] at h1
    exact ⟨es, rfl, by simp [view], h1⟩
  | pmap m => cases h
  | map m => cases h
  | dead => cases h
theorem view_pr (es : List (List PV)) : view (.pr es) = some (lift es) := by
  have e : mapL (AV.p) = List.map AV.p := funext fun l => mapL_eq _ l
  simp [view, e, lift]
theorem elem_view (hS : St objs B G w) {id : Nat} {o : Ob} {es : List (List AV)} (ho : getO id objs = some o) (hv : view o = some es) : Els w (Own objs G) G B (G id).b (G id).o (G id).s es := fun i c hc => by
  refine elem_at hS ho ?_
  cases o with
  | pr es' =>
    rw [view_pr] at hv
    cases hv
    simp only [lift, List.getElem?_map, Option.map_eq_some_iff] at hc
    obtain ⟨d, hd, rfl⟩ := hc
    simp [elemO, hd]
  | cells es' => cases hv; simp [elemO, hc]
  | pmap m => cases hv
  | map m => cases hv
  | dead => cases hv
theorem Els.sub {O : Bl} {n : Nat → Prop} {b base s : Nat} {es : List (List AV)} (h : Els w O G n b base s es) (i k : Nat) : Els w O G n b (base + i * s) s ((es.drop i).take k) := fun j c hc => by
  simp only [List.getElem?_take, List.getElem?_drop] at hc
  split at hc
  · have := h (i + j) c hc
    rwa [show base + (i + j) * s = base + i * s + j * s by rw [Nat.add_mul]; omega] at this
  · cases hc
/-- The elements of a slice, and where they lie. -/
theorem elems_ok (hS : St objs B G w) {v : AV} {x : Value} {o : Ob} {n : Nat} (hr : R w (Own objs G) G B v x) (hl : lenS v = some n) (he : elemsOf objs v = some o) :
    ∃ es ad cap, view o = some es ∧ es.length = n ∧ x = .slice ad n cap ∧ n ≤ cap ∧ (es = [] ∨ ∃ b base s, ad = some ⟨b, base, none⟩ ∧ Els w (Own objs G) G B b base s es) := by
  obtain ⟨ad, cap, rfl, hcap⟩ := lenS_ok hr hl
  have frz : ∀ es : List (List PV), PRel w (Own objs G) (.fz es) (.slice ad n cap) → ∃ es' ad' cap', view (.pr es) = some es' ∧ es'.length = n ∧ Value.slice ad n cap = .slice ad' n cap' ∧ n ≤ cap' ∧ (es' = [] ∨ ∃ b base s, ad' = some ⟨b, base, none⟩ ∧ Els w (Own objs G) G B b base s es') := by
    intro es h
    obtain ⟨ad', cap', e, _, hz⟩ := h.fz_inv
    cases e
    refine ⟨lift es, ad, cap, view_pr es, by simp [lift], rfl, hcap, ?_⟩
    rcases hz with rfl | ⟨b, base, s, rfl, hz⟩
    · exact .inl rfl
    · refine .inr ⟨b, base, s, rfl, fun i c hc => ?_⟩
      simp only [lift, List.getElem?_map, Option.map_eq_some_iff] at hc
      obtain ⟨d, hd, rfl⟩ := hc
      obtain ⟨xs, k1, k2, k3, k4⟩ := fz_elem (G := G) (n := B) hz hd
      exact ⟨xs, k1, k2, by simpa using k3, k4⟩
  obtain ⟨hr, hb⟩ := hr
  cases v <;> try (simp [lenS] at hl; done)
  case p q =>
    cases q <;> try (simp [lenS] at hl; done)
    cases he
    cases hr with | p _ _ hr => exact frz _ hr
  case nils =>
    cases he
    cases hr
    exact ⟨[], none, 0, rfl, rfl, rfl, Nat.le_refl _, .inl rfl⟩
  case lit es =>
    cases he
    cases hr with | lit _ _ hr => exact frz _ hr
  case row id s i len =>
    simp [lenS] at hl
    subst hl
    obtain ⟨o', ho', he⟩ := ob_some.1 (show ob (getO id objs) (fun o => subO o i len) = some o from he)
    obtain ⟨es, h1, h2, h3⟩ := subO_view he
    refine ⟨_, ad, cap, h2, by simp; omega, rfl, hcap, ?_⟩
    cases hr with
    | row0 => exact .inl (by simp)
    | row _ _ _ _ _ c e hs hc hb' hsz =>
      subst hs
      exact .inr ⟨_, _, _, rfl, (elem_view hS ho' h1).sub i len⟩
theorem byteOf_some {c : List PV} {n : Nat} (h : byteOf c = some n) : c = [.int .u8 (n : Int)] := by
  simp only [byteOf, ob_some, bf_some, nth_eq] at h
  obtain ⟨q, hq, p, hp, hk, hl, hm⟩ := h
  have hk := keq_eq hk
  rw [len_eq] at hl
  have hl := Nat.eq_of_beq_eq_true hl
  have hq' := piI_some hp
  rw [hk, natOf_some hm] at hq'
  subst hq'
  match c, hl with
  | [d], _ =>
    simp at hq
    subst hq
    rfl
theorem foldl_push (s : List Nat) : ∀ r : ByteArray, ((s.map Int.ofNat).foldl (fun r n => r.push (UInt8.ofNat n.toNat)) r).data.toList = r.data.toList ++ s.map UInt8.ofNat := by
  induction s with
  | nil => intro r; simp
  | cons n s ih =>
    intro r
    simp only [List.map_cons, List.foldl_cons]
    rw [ih]
    simp [ByteArray.push]
theorem ok_b2s (hS : St objs B G w) (hc : Cx ρ fr env a w (Own objs G) G B) {s d e : TypeId} {x : Operand} {o : Opd} {v : AV} (hs : P.underlying s = some (.slice e)) (hd : P.underlying d = some .string) (he8 : P.underlying e = some (.int .u8)) (hx : opdC ρ x = some o)
    (he : evP (.b2s o) fr env objs = some v) : ∃ y, (convert s d (a.eval x)).run P w = .ok y w ∧ R w (Own objs G) G B v y := by
  simp only [evP, ob_some] at he
  obtain ⟨u, hu, n, hn, o', ho', he⟩ := he
  obtain ⟨es, ad, cap, hv, hlen, hxx, hcap, hpl⟩ := elems_ok hS (hc.opd hx hu) hn ho'
  rw [hxx]
  cases o' <;> try (cases he; done)
  rename_i es'
  obtain ⟨ns, hns, he⟩ := ob_some.1 (show ob (mapO byteOf es') (fun s => some (AV.p (.str (mapL (fun n => Nat.mod n 256) s)))) = some v from he)
  cases he
  rw [view_pr] at hv
  cases hv
  obtain ⟨h1, h2⟩ := mapO_some hns
  rw [run_convert_bytes_string w s d e ad n cap hs he8 hd]
  have hlen' : es'.length = n := by simpa [lift] using hlen
  have fin : ∀ b : ByteArray, b.data.toList = ns.map UInt8.ofNat → R w (Own objs G) G B (.p (.str (mapL (fun n => Nat.mod n 256) ns))) (.string b) := fun b hb => R.p (.str _ _ (by
    rw [hb, List.map_map, mapL_eq]
    refine List.map_congr_left fun k hk => ?_
    simp [UInt8.toNat_ofNat]
    rfl))
  rcases hpl with h0 | ⟨b, base, sz, rfl, hels⟩
  · have h0 : es' = [] := by simpa [lift] using h0
    subst h0
    have hn0 : ns = [] := List.length_eq_zero_iff.1 (by simpa using h1.symm)
    subst hn0
    simp at hlen'
    subst hlen'
    refine ⟨.string .empty, ?_, fin _ (by simp)⟩
    cases ad with
    | none => simp [Conv.bytesToString]
    | some ad => exact run_bytesToString w ad 0 cap [] (run_loadCells_list w ad [] (by simp))
  · obtain ⟨ys, k1, k2, k3, k4⟩ := hels.flat
    have hflat : (lift es').flatten = ns.map fun (k : Nat) => AV.p (.int .u8 (k : Int)) := by
      clear k1 k4 hels
      clear ho' he fin he8 hxx hcap hlen hlen' k2 k3
      induction es' generalizing ns with
      | nil => cases ns with
        | nil => rfl
        | cons k ns => simp at h1
      | cons c es' ih =>
        rw [mapO_cons] at hns
        obtain ⟨k, hk, hns⟩ := ob_some.1 hns
        obtain ⟨ks, hks, hns⟩ := ob_some.1 hns
        cases hns
        obtain ⟨h3, h4⟩ := mapO_some hks
        have := ih ks hks h3 h4
        rw [byteOf_some hk]
        simpa [lift] using this
    rw [hflat] at k1
    have hys : ys = (ns.map Int.ofNat).map (Value.int .u8) := by
      apply List.ext_getElem?
      intro i
      by_cases hi : i < ns.length
      · have e1 : (ns.map fun (k : Nat) => AV.p (.int .u8 (k : Int)))[i]? = some (.p (.int .u8 ((ns[i] : Nat) : Int))) := by simp [hi]
        obtain ⟨y, hy, hr⟩ := k1.get e1
        rw [hy, hr.int]
        simp [hi]
      · have e1 : ys.length ≤ i := by rw [← k1.1]; simpa using hi
        rw [List.getElem?_eq_none e1, List.getElem?_eq_none (by simpa using hi)]
    have hyl : n = ys.length := by rw [hys]; simp [← h1, hlen']
    refine ⟨_, run_bytesToString w _ n cap (ns.map Int.ofNat) ?_, fin _ (by rw [foldl_push]; simp)⟩
    rw [← hys]
    exact run_cells k3 hyl
end
end Go.Ab
namespace Go.Ab
set_option maxRecDepth 8000
set_option linter.unusedVariables false
set_option linter.unusedSimpArgs false
section
variable {P : Program} {objs : Objs} {B : Nat → Prop} {G : Gm} {w : World} {ρ : Rho} {fr : Fr} {env : List AV} {a : Act}
theorem yes {s : Sem Value} {v : AV} (h : ∃ y, s.run P w = .ok y w ∧ R w (Own objs G) G B v y) : ∃ x, (do pure (.value (← s)) : Sem Next).run P w = .ok (.value x) w ∧ R w (Own objs G) G B v x := by
  obtain ⟨y, h1, h2⟩ := h
  exact ⟨y, by simp [h1], h2⟩
theorem run_builtin (ev : Operand → Value) (dst : Option Tmp) (b : Builtin) (args : Array Operand) (ts : Array TypeId) (ty : TypeId) (q1 : String) (q2 : Array Edge) (gd : Option (Nat × Bool)) :
    (execOp ev ⟨dst, .call { callee := .builtin b, args := args, argTypes := ts }, ty, q1, q2, gd⟩).run P w = (builtin b ts ty (args.map fun | .const _ => true | _ => false) ⟨args.toList.map ev⟩).run P w := by
  have e : (⟨args.toList.map ev⟩ : Array Value) = args.map ev := by apply Array.ext'; simp
  rw [e]
  simp [execOp, resolve, invoke]
  rfl
theorem pop_ok (hS : St objs B G w) (hc : Cx ρ fr env a w (Own objs G) G B) {o : Oper} {p : POp} {v : AV} (hp : pOp P ρ o.op = some p) (he : evP p fr env objs = some v) :
    ∃ x, (execOp a.eval o).run P w = .ok (.value x) w ∧ R w (Own objs G) G B v x := by
  obtain ⟨dst, op, ty, q1, q2, gd⟩ := o
  replace hp : pOp P ρ op = some p := hp
  unfold pOp at hp
  unfold execOp
  simp only
  split at hp
  case h_1 x =>
    obtain ⟨o, ho, rfl⟩ := with1_some hp
    exact ⟨_, rfl, hc.opd ho he⟩
  case h_2 x =>
    obtain ⟨o, ho, rfl⟩ := with1_some hp
    exact ⟨_, rfl, hc.opd ho he⟩
  case h_3 c x y =>
    obtain ⟨oc, o, o', h1, h2, h3, rfl⟩ := with3_some hp
    obtain ⟨b, hb, hr⟩ := ok_pick (P := P) hc h1 h2 h3 he
    exact ⟨_, by simp [hb], hr⟩
  case h_4 t x =>
    split at hp <;> try (cases hp; done)
    rename_i n hn
    obtain ⟨o, ho, rfl⟩ := with1_some hp
    obtain ⟨u, hu, he⟩ := ob_some.1 (show ob (opd o fr env) (fun v => loadA objs n v) = some v from he)
    obtain ⟨y, ad, h1, h2, h3⟩ := loadA_ok (P := P) hS hn (hc.opd ho hu) he
    exact yes ⟨y, by simp [Instr.loadAt, h1, Instr.sureAddr, h2], h3⟩
  case h_5 t x i =>
    split at hp <;> try (cases hp; done)
    rename_i qo qn qm hq
    obtain ⟨o, ho, rfl⟩ := with1_some hp
    exact yes (ok_fieldA hc hq ho he)
  case h_6 t x i =>
    split at hp <;> try (cases hp; done)
    · rename_i e hu
      split at hp <;> try (cases hp; done)
      rename_i h0
      obtain ⟨o, o', h1, h2, rfl⟩ := with2_some hp
      exact yes (ok_indexA hc hu h0 h1 h2 he)
    · rename_i n e hu
      split at hp <;> try (cases hp; done)
      rename_i h0
      obtain ⟨o, o', h1, h2, rfl⟩ := with2_some hp
      refine yes (ok_indexAr hc hu (fun h => h0 (.inl h)) ?_ h1 h2 he)
      cases hi : P.info? e with
      | none => exact absurd (.inr (by rw [hi]; rfl)) h0
      | some inf => exact ⟨inf, rfl⟩
  case h_7 t x i =>
    split at hp <;> try (cases hp; done)
    rename_i hu
    obtain ⟨o, o', h1, h2, rfl⟩ := with2_some hp
    exact yes (ok_index hc hu h1 h2 he)
  case h_8 op t x y q =>
    split at hp <;> try (cases hp; done)
    · obtain ⟨o, o', h1, h2, rfl⟩ := with2_some hp
      exact yes (ok_bin hc h1 h2 he)
    · obtain ⟨o, o', h1, h2, rfl⟩ := with2_some hp
      exact yes (ok_bin hc h1 h2 he)
    · rename_i hu
      obtain ⟨o, o', h1, h2, rfl⟩ := with2_some hp
      exact yes (ok_bin1 hc hu h1 h2 he)
    · rename_i fs hu
      split at hp <;> try (cases hp; done)
      rename_i h0
      split at hp <;> try (cases hp; done)
      rename_i ks hks
      obtain ⟨o, o', h1, h2, rfl⟩ := with2_some hp
      simp only [Bool.or_eq_true, not_or, Bool.not_eq_true] at h0
      exact yes (ok_eqT hc hu h0.1 h0.2 hks h1 h2 he)
    · rename_i ms hu
      split at hp <;> try (cases hp; done)
      rename_i hms
      obtain ⟨o, o', h1, h2, rfl⟩ := with2_some hp
      exact yes (ok_bin2 hc hu hms h1 h2 he)
    · rename_i e hu
      obtain ⟨o, o', h1, h2, rfl⟩ := with2_some hp
      exact yes (ok_bin3 hc hu h1 h2 he)
  case h_9 t x =>
    obtain ⟨o, ho, rfl⟩ := with1_some hp
    exact yes (ok_not hc ho he)
  case h_10 t x =>
    obtain ⟨o, ho, rfl⟩ := with1_some hp
    exact yes (ok_neg hc ho he)
  case h_11 x =>
    obtain ⟨o, ho, rfl⟩ := with1_some hp
    obtain ⟨u, hu, he⟩ := ob_some.1 (show ob (opd o fr env) okPtr = some v from he)
    have hr := hc.opd ho hu
    obtain ⟨rfl, h⟩ := ok_nilCheck hr he
    refine ⟨_, ?_, hr⟩
    show (execOp a.eval ⟨dst, .nilCheck x, ty, q1, q2, gd⟩).run P w = _
    rcases h with ⟨ad, h⟩ | ⟨f, xs, ys, h⟩ <;> simp [execOp, h]
  case h_12 t ps =>
    split at hp <;> try (cases hp; done)
    rename_i z place hz hpl
    split at hp <;> try (cases hp; done)
    rename_i parts hparts
    cases hp
    exact yes (ok_build hc hz hpl hparts he)
  case h_13 x i =>
    obtain ⟨o, ho, rfl⟩ := with1_some hp
    exact yes (ok_extract hc ho he)
  case h_14 t m k ok =>
    split at hp <;> try (cases hp; done)
    rename_i kt e hu
    split at hp <;> try (cases hp; done)
    rename_i kk z hk hz
    obtain ⟨o, o', h1, h2, rfl⟩ := with2_some hp
    exact yes (ok_lookup hS hc hu hk hz h1 h2 he)
  case h_15 t x lo hi =>
    split at hp <;> try (cases hp; done)
    · rename_i hu
      split at hp <;> try (cases hp; done)
      rename_i ox olo ohi hx hlo hhi
      cases hp
      exact yes (ok_slice0 hc hu hx hlo hhi he)
    · rename_i e hu
      split at hp <;> try (cases hp; done)
      rename_i h0
      split at hp <;> try (cases hp; done)
      rename_i ox olo ohi hx hlo hhi
      cases hp
      exact yes (ok_slice hc hu h0 hx hlo hhi he)
  case h_16 s d x =>
    split at hp <;> try (cases hp; done)
    · rename_i k' k hs hd
      obtain ⟨o, ho, rfl⟩ := with1_some hp
      exact yes (ok_conv hc hs hd ho he)
    · rename_i e hs hd
      split at hp <;> try (cases hp; done)
      rename_i h8
      obtain ⟨o, ho, rfl⟩ := with1_some hp
      exact yes (ok_b2s hS hc hs hd h8 ho he)
  case h_17 f xs ys =>
    split at hp <;> try (cases hp; done)
    rename_i os ps h1 h2
    cases hp
    exact yes (ok_fn hc h1 h2 he)
  case h_18 t x =>
    split at hp <;> try (cases hp; done)
    rename_i h1 h2
    obtain ⟨o, ho, rfl⟩ := with1_some hp
    cases hu : P.underlying t with
    | none => exact absurd hu h2
    | some d => exact yes (ok_iface hc hu (fun ms hd => h1 ms (by rw [hu, hd])) ho he)
  case h_19 t x i =>
    split at hp <;> try (cases hp; done)
    rename_i qo qn qm hq
    obtain ⟨o, ho, rfl⟩ := with1_some hp
    exact yes (ok_field hc hq ho he)
  case h_20 =>
    rename_i b args ts
    show ∃ x, (execOp a.eval ⟨dst, .call { callee := .builtin b, args := args, argTypes := ts }, ty, q1, q2, gd⟩).run P w = .ok (.value x) w ∧ _
    rw [run_builtin]
    split at hp <;> try (cases hp; done)
    · rename_i x hargs
      rw [hargs]
      split at hp <;> try (cases hp; done)
      · rename_i hu
        obtain ⟨t, ht, hu⟩ := Option.bind_eq_some_iff.1 hu
        obtain ⟨o, ho, rfl⟩ := with1_some hp
        exact yes (ok_len0 hc ht hu ho he)
      · rename_i e hu
        obtain ⟨t, ht, hu⟩ := Option.bind_eq_some_iff.1 hu
        obtain ⟨o, ho, rfl⟩ := with1_some hp
        exact yes (ok_len1 hc ht hu ho he)
      · rename_i kt e hu
        obtain ⟨t, ht, hu⟩ := Option.bind_eq_some_iff.1 hu
        obtain ⟨o, ho, rfl⟩ := with1_some hp
        exact yes (ok_len2 hS hc ht hu ho he)
    · rename_i x y hargs
      rw [hargs]
      obtain ⟨o, o', h1, h2, rfl⟩ := with2_some hp
      exact yes (ok_max hc h1 h2 he)
    · rename_i x y hargs
      rw [hargs]
      obtain ⟨o, o', h1, h2, rfl⟩ := with2_some hp
      exact yes (ok_min hc h1 h2 he)
  case h_21 => cases hp
end
end Go.Ab
namespace Go.Ab
set_option maxRecDepth 8000
set_option linter.unusedVariables false
set_option linter.unusedSimpArgs false
section
variable {P : Program} {objs : Objs} {B : Nat → Prop} {G : Gm} {w w' : World}
/-- What an object holds outlives what leaves its block alone. -/
theorem ORel.keep {O O' : Bl} {G G' : Gm} {l : Loc} {o : Ob} (h : ORel w O G l o) (hb : w'.heap[l.b]? = w.heap[l.b]?) (hv : ∀ v x, (∀ r ∈ refs v, r ∈ refsO o) → AVRel w O G v x → AVRel w' O' G' v x) (hp : ∀ p x, PRel w O p x → PRel w' O' p x) : ORel w' O' G' l o := by
  have row : ∀ es : List (List AV), (∀ (i : Nat) (cs : List AV) (j : Nat) (v : AV), es[i]? = some cs → cs[j]? = some v → ∀ x, AVRel w O G v x → AVRel w' O' G' v x) → Row w O G l es → Row w' O' G' l es := by
    intro es hv ⟨c, e, h1, h2, h3, h4⟩
    refine ⟨c, e, hb.trans h1, h2, h3, fun i cs hcs => ⟨(h4 i cs hcs).1, fun j v hv' => ?_⟩⟩
    obtain ⟨x, k1, k2, k3⟩ := (h4 i cs hcs).2 j v hv'
    exact ⟨x, k1, k2, hv i cs j v hcs hv' x k3⟩
  have mp : ∀ m : List (PV × AV), (∀ (i : Nat) (p : PV) (v : AV), m[i]? = some (p, v) → ∀ x, AVRel w O G v x → AVRel w' O' G' v x) → MapAt w O G l.b m → MapAt w' O' G' l.b m := by
    intro m hv ⟨es, ck, h1, h2, h3⟩
    exact ⟨es, ck, hb.trans h1, h2, fun i k v e hm he => ⟨hp _ _ (h3 i k v e hm he).1, hv i k v hm _ (h3 i k v e hm he).2⟩⟩
  cases o with
  | pr es =>
    refine row _ (fun i cs j v h1 h2 x hx => hv v x ?_ hx) h
    simp only [lift, List.getElem?_map, Option.map_eq_some_iff] at h1
    obtain ⟨d, _, rfl⟩ := h1
    simp only [List.getElem?_map, Option.map_eq_some_iff] at h2
    obtain ⟨q, _, rfl⟩ := h2
    intro r hr; simp at hr
  | cells es => exact row _ (fun i cs j v h1 h2 x hx => hv v x (fun r hr => refsLL_get h1 (refsL_get h2 hr)) hx) h
  | pmap m =>
    refine mp _ (fun i p v h1 x hx => hv v x ?_ hx) h
    simp only [List.getElem?_map, Option.map_eq_some_iff] at h1
    obtain ⟨q, _, h1⟩ := h1
    cases h1
    intro r hr; simp at hr
  | map m => exact mp _ (fun i p v h1 x hx => hv v x (fun r hr => refsM_get h1 hr) hx) h
  | dead => trivial
def updG (G : Gm) (q : Nat) (l : Loc) : Gm := ⟨fun i => if i = q then l else G i, G.X⟩
theorem alive_cons {q id : Nat} {o o' : Ob} (h : Alive ((q, o) :: objs) id o') : (id = q ∧ o' = o) ∨ (id ≠ q ∧ Alive objs id o') := by
  obtain ⟨h1, h2⟩ := h
  rw [getO_cons] at h1
  split at h1
  · cases h1; exact .inl ⟨‹_›, rfl⟩
  · exact .inr ⟨‹_›, h1, h2⟩
/-- A new object in a new block. -/
theorem new_ok (hS : St objs B G w) {q : Nat} (hq : ¬ B q) {o : Ob} (hd : o ≠ .dead) {l : Loc} (hl : l.b = w.heap.size) (hsz : w.heap.size < w'.heap.size) (hE : Ev (fun _ => False) w w')
    (hR : ∀ O' G', (∀ v x, R w (Own objs G) G B v x → AVRel w' O' G' v x) → ORel w' O' G' l o) (hrefs : ∀ r ∈ refsO o, B r) :
    Post objs B G w ((q, o) :: objs) (fun r => B r ∨ r = q) (updG G q l) w' := by
  have hGq : (updG G q l) q = l := by simp [updG]
  have hGo : ∀ r, B r → (updG G q l) r = G r := fun r hr => by
    have : r ≠ q := fun h => hq (h ▸ hr)
    simp [updG, this]
  have hown : ∀ b, b < w.heap.size → Own ((q, o) :: objs) (updG G q l) b → Own objs G b := by
    rintro b hb (hx | ⟨id, o', hal, hb'⟩)
    · exact .inl hx
    rcases alive_cons hal with ⟨rfl, rfl⟩ | ⟨hne, hal⟩
    · rw [hGq, hl] at hb'; omega
    · exact .inr ⟨id, o', hal, by rw [← hGo id (hS.lt id o' hal).1]; exact hb'⟩
  have hEv : Ev (Own objs G) w w' := hE.mono fun _ h => h.elim
  have hval : ∀ v x, AVRel w (Own objs G) G v x → Below B v → AVRel w' (Own ((q, o) :: objs) (updG G q l)) (updG G q l) v x := fun v x h hb => h.mono hEv hown fun r hr => hGo r (hb r hr)
  refine { st := ?_, ev := hE.mono fun _ h => h.elim, same := rfl, next := fun r hr => .inl hr, agree := hGo, own := hown }
  refine { lt := ?_, inj := ?_, rel := ?_, refs := ?_, apart := ?_, ltX := fun b hb => Nat.lt_of_lt_of_le (hS.ltX b hb) hE.size, wf := ?_ }
  · intro id o' hal
    rcases alive_cons hal with ⟨rfl, rfl⟩ | ⟨hne, hal⟩
    · exact ⟨.inr rfl, by rw [hGq, hl]; exact hsz⟩
    · have := hS.lt id o' hal
      exact ⟨.inl this.1, by rw [hGo id this.1]; omega⟩
  · intro id o' id' o'' h1 h2 he
    rcases alive_cons h1 with ⟨e1, _⟩ | ⟨hne, k1⟩ <;> rcases alive_cons h2 with ⟨e2, _⟩ | ⟨hne', k2⟩
    · rw [e1, e2]
    · rw [e1, hGq, hGo id' (hS.lt _ _ k2).1, hl] at he
      have := (hS.lt _ _ k2).2
      omega
    · rw [e2, hGq, hGo id (hS.lt _ _ k1).1, hl] at he
      have := (hS.lt _ _ k1).2
      omega
    · rw [hGo id (hS.lt _ _ k1).1, hGo id' (hS.lt _ _ k2).1] at he
      exact hS.inj id o' id' o'' k1 k2 he
  · intro id o' hal
    rcases alive_cons hal with ⟨rfl, rfl⟩ | ⟨hne, hal⟩
    · rw [hGq]
      exact hR _ _ fun v x h => hval v x h.1 h.2
    · rw [hGo id (hS.lt _ _ hal).1]
      exact (hS.rel id o' hal).keep (hE.keep _ (hS.lt _ _ hal).2 (fun h => h)) (fun v x hr h => hval v x h fun r hr' => hS.refs id o' hal r (hr r hr')) (fun p x h => h.mono hEv hown)
  · intro id o' hal r hr
    rcases alive_cons hal with ⟨rfl, rfl⟩ | ⟨hne, hal⟩
    · exact .inl (hrefs r hr)
    · exact .inl (hS.refs id o' hal r hr)
  · intro id o' hal hx
    rcases alive_cons hal with ⟨rfl, rfl⟩ | ⟨hne, hal⟩
    · rw [hGq, hl] at hx
      exact Nat.lt_irrefl _ (hS.ltX _ hx)
    · rw [hGo id (hS.lt _ _ hal).1] at hx
      exact hS.apart _ _ hal hx
  · intro id o' h
    rw [getO_cons] at h
    split at h
    · exact .inr ‹_›
    · exact .inl (hS.wf id o' h)
theorem alive_set {id j : Nat} {o o' o'' : Ob} (ho : getO id objs = some o) (h : Alive (setO id o' objs) j o'') : (j = id ∧ o'' = o') ∨ (j ≠ id ∧ Alive objs j o'') := by
  obtain ⟨h1, h2⟩ := h
  rw [getO_setO] at h1
  split at h1
  · rw [ho] at h1; cases h1; exact .inl ⟨‹_›, rfl⟩
  · exact .inr ⟨‹_›, h1, h2⟩
/-- An object that is changed in its block. -/
theorem upd_ok (hS : St objs B G w) {id : Nat} {o o' : Ob} (ho : Alive objs id o) (hM : Ev (Mut objs G) w w') (hk : ∀ b, b ≠ (G id).b → b < w.heap.size → w'.heap[b]? = w.heap[b]?)
    (hR : o' ≠ .dead → ∀ O', (∀ v x, R w (Own objs G) G B v x → AVRel w' O' G v x) → (∀ p x, PRel w (Own objs G) p x → PRel w' O' p x) → ORel w' O' G (G id) o') (hrefs : ∀ r ∈ refsO o', B r) :
    Post objs B G w (setO id o' objs) B G w' := by
  have hE := hM.up
  have hown : ∀ b, b < w.heap.size → Own (setO id o' objs) G b → Own objs G b := by
    rintro b hb (hx | ⟨j, o'', hal, hb'⟩)
    · exact .inl hx
    rcases alive_set ho.1 hal with ⟨rfl, rfl⟩ | ⟨hne, hal⟩
    · exact .inr ⟨j, o, ho, hb'⟩
    · exact .inr ⟨j, o'', hal, hb'⟩
  have hval : ∀ v x, AVRel w (Own objs G) G v x → AVRel w' (Own (setO id o' objs) G) G v x := fun v x h => h.mono hE hown fun r hr => rfl
  refine { st := ?_, ev := hM, same := rfl, next := fun r hr => hr, agree := fun _ _ => rfl, own := hown }
  refine { lt := ?_, inj := ?_, rel := ?_, refs := ?_, apart := ?_, ltX := fun b hb => Nat.lt_of_lt_of_le (hS.ltX b hb) hE.size, wf := ?_ }
  · intro j o'' hal
    rcases alive_set ho.1 hal with ⟨rfl, rfl⟩ | ⟨hne, hal⟩
    · exact ⟨(hS.lt _ _ ho).1, Nat.lt_of_lt_of_le (hS.lt _ _ ho).2 hE.size⟩
    · exact ⟨(hS.lt _ _ hal).1, Nat.lt_of_lt_of_le (hS.lt _ _ hal).2 hE.size⟩
  · intro j o1 j' o2 h1 h2 he
    have k : ∀ j o1, Alive (setO id o' objs) j o1 → ∃ o2, Alive objs j o2 := by
      intro j o1 h1
      rcases alive_set ho.1 h1 with ⟨rfl, rfl⟩ | ⟨hne, h1⟩
      · exact ⟨o, ho⟩
      · exact ⟨_, h1⟩
    obtain ⟨_, k1⟩ := k j o1 h1
    obtain ⟨_, k2⟩ := k j' o2 h2
    exact hS.inj j _ j' _ k1 k2 he
  · intro j o'' hal
    rcases alive_set ho.1 hal with ⟨rfl, rfl⟩ | ⟨hne, hal'⟩
    · exact hR hal.2 _ (fun v x h => hval v x h.1) (fun p x h => h.mono hE hown)
    · have hb : (G j).b ≠ (G id).b := fun he => hne (hS.inj j _ id _ hal' ho he)
      exact (hS.rel j o'' hal').keep (hk _ hb (hS.lt _ _ hal').2) (fun v x hr h => hval v x h) (fun p x h => h.mono hE hown)
  · intro j o'' hal r hr
    rcases alive_set ho.1 hal with ⟨rfl, rfl⟩ | ⟨hne, hal⟩
    · exact hrefs r hr
    · exact hS.refs j o'' hal r hr
  · intro j o'' hal
    rcases alive_set ho.1 hal with ⟨rfl, rfl⟩ | ⟨hne, hal⟩
    · exact hS.apart _ _ ho
    · exact hS.apart _ _ hal
  · intro j o'' h
    rw [getO_setO] at h
    split at h
    · rename_i hj
      subst hj
      exact hS.wf j o ho.1
    · exact hS.wf j o'' h
/-! ### Rows -/
theorem flatten_get {es : List (List AV)} {s : Nat} (hs : ∀ c ∈ es, c.length = s) {i j : Nat} {c : List AV} {v : AV} (hc : es[i]? = some c) (hv : c[j]? = some v) : es.flatten[i * s + j]? = some v := by
  induction es generalizing i with
  | nil => simp at hc
  | cons d es ih =>
    have hd := hs d (by simp)
    rw [List.flatten_cons, List.getElem?_append]
    cases i with
    | zero =>
      simp at hc
      subst hc
      have := (List.getElem?_eq_some_iff.1 hv).1
      simp only [Nat.zero_mul, Nat.zero_add, this, if_true, hv]
    | succ i =>
      have h1 : ¬ (i + 1) * s + j < d.length := by rw [Nat.add_mul]; omega
      rw [if_neg h1]
      have := ih (fun c hc => hs c (by simp [hc])) (by simpa using hc)
      rwa [show (i + 1) * s + j - d.length = i * s + j by rw [Nat.add_mul]; omega]
theorem flatten_len {es : List (List AV)} {s : Nat} (hs : ∀ c ∈ es, c.length = s) : es.flatten.length = es.length * s := by
  induction es with
  | nil => simp
  | cons d es ih => simp [hs d (by simp), ih fun c hc => hs c (by simp [hc]), Nat.add_mul]; omega
/-- Values in a row of cells. -/
theorem row_of {O : Bl} {l : Loc} {es : List (List AV)} {ys : List Value} {c : Array Value} {e : TypeId} (hb : w'.heap[l.b]? = some (.cells c e (0, 0))) (hs : 0 < l.s) (hlen : ∀ c ∈ es, c.length = l.s)
    (hc : ∀ (j : Nat) (y : Value), ys[j]? = some y → c[l.o + j]? = some y) (hl : es.flatten.length = ys.length) (hr : ∀ (i : Nat) (v : AV) (x : Value), es.flatten[i]? = some v → ys[i]? = some x → AVRel w' O G v x) (hcell : AllCell ys)
    (hsz : l.o + ys.length ≤ c.size) : Row w' O G l es := by
  refine ⟨c, e, hb, hs, by rw [← flatten_len hlen, hl]; exact hsz, fun i cs hi => ⟨hlen cs (List.mem_of_getElem? hi), fun j v hv => ?_⟩⟩
  have h1 := flatten_get hlen hi hv
  have hlt : i * l.s + j < ys.length := by rw [← hl]; exact (List.getElem?_eq_some_iff.1 h1).1
  have h2 := List.getElem?_eq_getElem hlt
  refine ⟨ys[i * l.s + j], ?_, hcell _ (List.getElem_mem hlt), hr _ v _ h1 h2⟩
  rw [Nat.add_assoc]
  exact hc _ _ h2
theorem mkRow_ok {O : Bl} {l : Loc} {es : List (List AV)} (h : Row w' O G l es) : ORel w' O G l (mkRow es) := by
  unfold mkRow
  cases hm : mapO (mapO pure?) es with
  | none => exact h
  | some ps =>
    have e : lift ps = es := by
      obtain ⟨h1, h2⟩ := mapO_some hm
      apply List.ext_getElem?
      intro i
      cases hi : es[i]? with
      | none =>
        have : es.length ≤ i := by simpa using hi
        simp [lift, List.getElem?_eq_none (show ps.length ≤ i by omega)]
      | some c =>
        obtain ⟨d, hd, hf⟩ := h2 i c hi
        simp only [lift, List.getElem?_map, hd, Option.map_some, Option.some.injEq]
        obtain ⟨h3, h4⟩ := mapO_some hf
        apply List.ext_getElem?
        intro j
        cases hj : c[j]? with
        | none =>
          have : c.length ≤ j := by simpa using hj
          simp [List.getElem?_eq_none (show d.length ≤ j by omega)]
        | some v =>
          obtain ⟨q, hq, hp⟩ := h4 j v hj
          simp [hq, pure?_some hp]
    show Row w' O G l (lift ps)
    rw [e]; exact h
theorem mkRow_alive (es : List (List AV)) : mkRow es ≠ .dead := by
  unfold mkRow
  cases mapO (mapO pure?) es <;> simp
theorem mkRow_refs {es : List (List AV)} {r : Nat} (h : r ∈ refsO (mkRow es)) : r ∈ refsLL es := by
  unfold mkRow at h
  cases hm : mapO (mapO pure?) es with
  | none => rw [hm] at h; exact h
  | some ps => rw [hm] at h; cases h
end
end Go.Ab
namespace Go.Ab
set_option maxRecDepth 8000
set_option linter.unusedVariables false
set_option linter.unusedSimpArgs false
section
variable {P : Program} {objs : Objs} {B : Nat → Prop} {G : Gm} {w w' : World} {ρ : Rho} {fr : Fr} {env : List AV} {a : Act}
theorem alloc_ev (w : World) (o : Obj) : Ev (fun _ => False) w (w.alloc o) where
  os := rfl
  tape := rfl
  output := rfl
  size := by simp
  keep b hb _ := by
    have : b ≠ w.heap.size := by omega
    simp [World.alloc, -World.alloc_eq, Array.getElem?_push, this]
  shape b c e f h := by
    have hb : b < w.heap.size := (Array.getElem?_eq_some_iff.1 h).1
    have : b ≠ w.heap.size := by omega
    exact ⟨c, by simp [World.alloc, -World.alloc_eq, Array.getElem?_push, this, h], rfl⟩
theorem drew_ev (w : World) : Ev (fun _ => False) w w.drew := ⟨rfl, rfl, rfl, Nat.le_refl _, fun _ _ _ => rfl, fun b c e f h => ⟨c, h, rfl⟩⟩
theorem alloc_at (w : World) (o : Obj) : (w.alloc o).heap[w.heap.size]? = some o := by simp [World.alloc, -World.alloc_eq]
theorem refsLL_flatten (es : List (List AV)) : refsLL es = refsL es.flatten := by
  have app : ∀ a b : List AV, refsL (a ++ b) = refsL a ++ refsL b := fun a b => by induction a with
    | nil => rfl
    | cons v a ih => simp [ih]
  induction es with
  | nil => rfl
  | cons c es ih => simp [ih, app]
theorem flat_of {O : Bl} {es : List (List AV)} {s : Nat} {ys : List Value} (hs : 0 < s) (hlen : ∀ c ∈ es, c.length = s) (hsz : ys.length = es.length * s)
    (h : ∀ (i : Nat) (c : List AV) (j : Nat) (v : AV) (x : Value), es[i]? = some c → c[j]? = some v → ys[i * s + j]? = some x → R w O G B v x ∧ CellV x) : RL w O G B es.flatten ys ∧ AllCell ys := by
  have key : ∀ (k : Nat) (x : Value), ys[k]? = some x → ∃ v, es.flatten[k]? = some v ∧ R w O G B v x ∧ CellV x := by
    intro k x hx
    have hk : k < es.length * s := by rw [← hsz]; exact (List.getElem?_eq_some_iff.1 hx).1
    have hi : k / s < es.length := (Nat.div_lt_iff_lt_mul hs).2 hk
    have hc := List.getElem?_eq_getElem hi
    have hl := hlen _ (List.getElem_mem hi)
    have hj : k % s < es[k / s].length := by rw [hl]; exact Nat.mod_lt _ hs
    have hv := List.getElem?_eq_getElem hj
    have e : k / s * s + k % s = k := by rw [Nat.mul_comm]; exact Nat.div_add_mod k s
    have h1 := flatten_get hlen hc hv
    rw [e] at h1
    exact ⟨_, h1, h _ _ _ _ x hc hv (by rw [e]; exact hx)⟩
  refine ⟨⟨by rw [flatten_len hlen, hsz], fun k v x hv hx => ?_⟩, fun x hx => ?_⟩
  · obtain ⟨v', h1, h2, _⟩ := key k x hx
    rw [hv] at h1; cases h1
    exact h2
  · obtain ⟨k, hk⟩ := List.mem_iff_getElem?.1 hx
    exact (key k x hk).choose_spec.2.2
/-- A new row. -/
theorem new_row (hS : St objs B G w) {q : Nat} (hq : ¬ B q) {es : List (List AV)} {s : Nat} (hs : 0 < s) (hlen : ∀ c ∈ es, c.length = s) {ys : List Value} (hr : RL w (Own objs G) G B es.flatten ys) (hcell : AllCell ys) {c : Array Value} {e : TypeId}
    (hw : w'.heap[w.heap.size]? = some (.cells c e (0, 0))) (hE : Ev (fun _ => False) w w') (hc : ∀ (j : Nat) (y : Value), ys[j]? = some y → c[j]? = some y) (hcs : ys.length ≤ c.size) {o : Ob} (ho : o = .cells es ∨ o = mkRow es) :
    Post objs B G w ((q, o) :: objs) (fun r => B r ∨ r = q) (updG G q ⟨w.heap.size, 0, s⟩) w' := by
  have hrf : ∀ r ∈ refsLL es, B r := by rw [refsLL_flatten]; exact hr.below
  have hrow : ∀ O' G', (∀ v x, R w (Own objs G) G B v x → AVRel w' O' G' v x) → Row w' O' G' ⟨w.heap.size, 0, s⟩ es := fun O' G' h =>
    row_of hw hs hlen (fun j y hy => by simpa using hc j y hy) hr.1 (fun i v x h1 h2 => h v x (hr.2 i v x h1 h2)) hcell (by simpa using hcs)
  have hsz := (Array.getElem?_eq_some_iff.1 hw).1
  rcases ho with rfl | rfl
  · exact new_ok hS hq (by simp) rfl hsz hE (fun O' G' h => hrow O' G' h) hrf
  · exact new_ok hS hq (mkRow_alive es) rfl hsz hE (fun O' G' h => mkRow_ok (hrow O' G' h)) fun r hr => hrf r (mkRow_refs hr)
def addO (q : Nat) (r : Option Ob) (objs : Objs) : Objs := match r with
  | none => objs
  | some o => (q, o) :: objs
def addB (q : Nat) (r : Option Ob) (B : Nat → Prop) : Nat → Prop := match r with
  | none => B
  | some _ => fun i => B i ∨ i = q
/-- What is shown of an operation that makes an object. -/
def Made (P : Program) (objs : Objs) (B : Nat → Prop) (G : Gm) (w : World) (q : Nat) (s : Sem Value) (r : AV × Option Ob) : Prop :=
  ∃ x w' G', s.run P w = .ok x w' ∧ Post objs B G w (addO q r.2 objs) (addB q r.2 B) G' w' ∧ R w' (Own (addO q r.2 objs) G') G' (addB q r.2 B) r.1 x
theorem made_ptr (hS : St objs B G w) {q : Nat} (hq : ¬ B q) {cs : List AV} (h0 : 0 < cs.length) {ys : Array Value} {e : TypeId} (hr : RL w (Own objs G) G B cs ys.toList) (hcell : AllCell ys.toList) {s : Sem Value}
    (hrun : s.run P w = .ok (.pointer (some ⟨w.heap.size, 0, none⟩)) (w.alloc (.cells ys e))) : Made P objs B G w q s (.ptr q 0 0, some (mkRow [cs])) := by
  have hp := new_row hS hq (es := [cs]) h0 (by simp) (by simpa using hr) hcell (alloc_at w (.cells ys e)) (alloc_ev w _) (fun j y hy => by simpa using hy) (by simp) (.inr rfl)
  refine ⟨_, _, _, hrun, hp, ?_, fun r hr => .inr (by simpa using hr)⟩
  have := AVRel.ptr (w := w.alloc (.cells ys e)) (O := Own ((q, mkRow [cs]) :: objs) (updG G q ⟨w.heap.size, 0, cs.length⟩)) (G := updG G q ⟨w.heap.size, 0, cs.length⟩) q 0 0
  simpa [updG, addO] using this
theorem nok_alloc (hS : St objs B G w) {t : TypeId} {z : List AV} {q : Nat} {r : AV × Option Ob} (hq : ¬ B q) (hz : zeroA P t = some z) (h0 : ¬ z.length = 0) (he : evN (.alloc z) fr env q = some r) : Made P objs B G w q (Instr.alloc t true (.tuple #[])) r := by
  cases he
  obtain ⟨i, x, hi, hx, hrl, hcell, hlen⟩ := zeroA_ok hz w (Own objs G) G B
  exact made_ptr (e := t) hS hq (by omega) hrl hcell (by simp [Instr.alloc, zero_run hi hx, newVar, newRow])
theorem nok_box (hS : St objs B G w) (hc : Cx ρ fr env a w (Own objs G) G B) {t : TypeId} {x : Operand} {o : Opd} {q : Nat} {r : AV × Option Ob} (hq : ¬ B q) (hx : opdC ρ x = some o) (he : evN (.box o) fr env q = some r) : Made P objs B G w q (Instr.box t (a.eval x)) r := by
  simp only [evN, ob_some, bf_some, allL_eq, len_eq] at he
  obtain ⟨v, hv, h0, h1, he⟩ := he
  cases he
  have hr := hc.opd hx hv
  exact made_ptr (e := t) hS hq (Nat.le_of_ble_eq_true h0) (cells_ok hr) (cells_cell hr h1) (by simp [Instr.box, newVar, newRow])
theorem nok_map (hS : St objs B G w) {t : TypeId} {q : Nat} {r : AV × Option Ob} (hq : ¬ B q) (he : evN .mkmap fr env q = some r) : Made P objs B G w q (Instr.makeMap t none) r := by
  cases he
  have hp := new_ok hS hq (o := .pmap []) (l := ⟨w.heap.size, 0, 0⟩) (w' := w.alloc (.map #[] 0)) (by simp) rfl (by simp) (alloc_ev w _) (fun O' G' h => ⟨#[], 0, alloc_at w _, .zero, by simp⟩) (by intro r hr; cases hr)
  refine ⟨.map (some w.heap.size), _, _, rfl, hp, ?_, fun r hr => .inr (by simpa using hr)⟩
  have := AVRel.map (w := w.alloc (.map #[] 0)) (O := Own ((q, .pmap []) :: objs) (updG G q ⟨w.heap.size, 0, 0⟩)) (G := updG G q ⟨w.heap.size, 0, 0⟩) q
  simpa [updG, addO] using this
/-- A new block that nobody owns. -/
theorem Post.free (hS : St objs B G w) (hE : Ev (fun _ => False) w w') : Post objs B G w objs B G w' := by
  have hEv : Ev (Own objs G) w w' := hE.mono fun _ h => h.elim
  refine { st := ?_, ev := hE.mono fun _ h => h.elim, same := rfl, next := fun _ h => h, agree := fun _ _ => rfl, own := fun _ _ h => h }
  refine { lt := fun id o h => ⟨(hS.lt id o h).1, Nat.lt_of_lt_of_le (hS.lt id o h).2 hE.size⟩, inj := hS.inj, refs := hS.refs, apart := hS.apart, wf := hS.wf, ltX := fun b hb => Nat.lt_of_lt_of_le (hS.ltX b hb) hE.size, rel := fun id o h => ?_ }
  exact (hS.rel id o h).keep (hE.keep _ (hS.lt id o h).2 fun h => h) (fun v x _ h => h.mono hEv (fun _ _ h => h) fun _ _ => rfl) (fun p x h => h.mono hEv fun _ _ h => h)
theorem Own.lt (hS : St objs B G w) {b : Nat} (h : Own objs G b) : b < w.heap.size := by
  rcases h with h | ⟨id, o, h1, rfl⟩
  · exact hS.ltX b h
  · exact (hS.lt id o h1).2
theorem nok_s2b (hS : St objs B G w) (hc : Cx ρ fr env a w (Own objs G) G B) {s d e : TypeId} {x : Operand} {o : Opd} {q : Nat} {r : AV × Option Ob} (hs : P.underlying s = some .string) (hd : P.underlying d = some (.slice e)) (he8 : P.underlying e = some (.int .u8)) (hx : opdC ρ x = some o)
    (he : evN (.s2b o) fr env q = some r) : Made P objs B G w q (convert s d (a.eval x)) r := by
  simp only [evN, ob_some] at he
  obtain ⟨v, hv, st, hst, he⟩ := he
  cases he
  have hr := hc.opd hx hv
  rw [asS_some hst] at hr
  obtain ⟨b, hb, rfl⟩ := hr.str
  rw [hb]
  have hE : Ev (fun _ => False) w (Lib.bytesWorld w e b) := {
    os := by simp [Lib.bytesWorld, World.freeze, World.alloc, World.drew, -World.alloc_eq, -World.drew_eq]
    tape := by simp [Lib.bytesWorld, World.freeze, World.alloc, World.drew, -World.alloc_eq, -World.drew_eq]
    output := by simp [Lib.bytesWorld, World.freeze, World.alloc, World.drew, -World.alloc_eq, -World.drew_eq]
    size := by rw [Lib.bytesWorld_size]; omega
    keep := fun k hk _ => Lib.bytesWorld_at_old w e b k hk
    shape := fun k c t f h => ⟨c, by rw [Lib.bytesWorld_at_old w e b k (Array.getElem?_eq_some_iff.1 h).1]; exact h, rfl⟩ }
  have hp := Post.free hS hE
  refine ⟨_, _, G, Lib.run_convert_string_bytes w s d e b hs hd he8, hp, ?_⟩
  have hlen : (bytes (b.data.toList.map UInt8.toNat)).length = b.size := by simp [bytes]
  have hz : Fz (Lib.bytesWorld w e b) (Own objs G) (bytes (b.data.toList.map UInt8.toNat)) w.heap.size 0 1 := {
    lt := by rw [Lib.bytesWorld_size]; omega
    own := fun h => Nat.lt_irrefl _ (Own.lt hS h)
    len := fun i c hc => by
      simp only [bytes, mapL_eq, List.map_map, List.getElem?_map, Option.map_eq_some_iff] at hc
      obtain ⟨k, _, rfl⟩ := hc
      rfl
    at_ := fun i j c v hc hv => by
      simp only [bytes, mapL_eq, List.map_map, List.getElem?_map, Option.map_eq_some_iff] at hc
      obtain ⟨k, hk, rfl⟩ := hc
      have hi : i < b.size := by have := (List.getElem?_eq_some_iff.1 hk).1; simpa using this
      have hj : j = 0 := by
        have := (List.getElem?_eq_some_iff.1 hv).1
        simp at this
        exact this
      subst hj
      simp at hv
      subst hv
      refine ⟨.int .u8 (b.data.toList.getD i 0).toNat, ?_, rfl, ?_⟩
      · have := Lib.bytesWorld_cell w e b i hi
        simpa using this
      · rw [List.getD_eq_getElem?_getD, hk]
        exact .int .u8 _ }
  have := hz.rel (cap := grownCap w b.size 0 e) (by rw [hlen]; exact grownCap_ge w _ _ _)
  rw [hlen] at this
  exact R.p this
end
end Go.Ab
namespace Go.Ab
set_option maxRecDepth 8000
set_option linter.unusedVariables false
set_option linter.unusedSimpArgs false
section
variable {P : Program} {objs : Objs} {B : Nat → Prop} {G : Gm} {w w' : World} {ρ : Rho} {fr : Fr} {env : List AV} {a : Act}
theorem weakL_rec : ∀ a : List AV, AV.rec_1 (motive_1 := fun _ => Option PV) (motive_2 := fun _ => Option (List PV)) some (some (.fz [])) (fun es => some (.fz es)) (fun _ _ _ _ => none) (fun _ _ _ => none) (fun _ _ _ => none) none (fun _ => none) none (fun _ _ _ _ _ => none) none (fun _ _ _ => none) none (fun _ r => ob r fun cs => some (.agg cs)) (fun _ _ => none)
    (some []) (fun _ _ a b => ob a fun a => ob b fun b => some (a :: b)) a = mapO weak a
  | [] => rfl
  | v :: l => by
    rw [mapO_cons, ← weakL_rec l]
    rfl
theorem weak_agg (cs : List AV) : weak (.agg cs) = ob (mapO weak cs) fun ps => some (.agg ps) := by rw [← weakL_rec]; rfl
theorem weak_ok {O : Bl} {v : AV} {x : Value} (h : AVRel w O G v x) : ∀ {p : PV}, weak v = some p → PRel w O p x := by
  induction h with
  | p v x h => intro p hp; cases hp; exact h
  | nils => intro p hp; cases hp; exact .fz0 _ _
  | lit es a h => intro p hp; cases hp; exact h
  | agg cs vs hl hv h ih =>
    intro p hp
    rw [weak_agg] at hp
    obtain ⟨ps, hps, e⟩ := ob_some.1 hp
    cases e
    refine .agg ps vs ((mapO_some hps).1.symm.trans hl) hv fun i c x hc hx => ?_
    obtain ⟨u, hu, hw⟩ := mapO_back hps hc
    exact ih i u x hu hx hw
  | _ => intro p hp; cases hp
/-- A new row that nobody will change. -/
theorem new_fz (hS : St objs B G w) {f : AV → Option PV} (hf : ∀ {v x p}, AVRel w (Own objs G) G v x → f v = some p → PRel w (Own objs G) p x) {es : List (List AV)} {ps : List (List PV)} (hps : mapO (mapO f) es = some ps) {s : Nat} (hs : 0 < s) (hlen : ∀ c ∈ es, c.length = s) {ys : List Value}
    (hr : RL w (Own objs G) G B es.flatten ys) (hcell : AllCell ys) {c : Array Value} {e : TypeId} {fr : Nat × Nat} (hw : w'.heap[w.heap.size]? = some (.cells c e fr)) (hE : Ev (fun _ => False) w w') (hc : ∀ (j : Nat) (y : Value), ys[j]? = some y → c[j]? = some y) :
    Fz w' (Own objs G) ps w.heap.size 0 s := by
  have hp := Post.free hS hE
  refine { lt := (Array.getElem?_eq_some_iff.1 hw).1, own := fun h => Nat.lt_irrefl _ (Own.lt hS h), len := fun i d hd => ?_, at_ := fun i j d v hd hv => ?_ }
  · obtain ⟨c', hc', hm⟩ := mapO_back hps hd
    rw [← (mapO_some hm).1]
    exact hlen c' (List.mem_of_getElem? hc')
  · obtain ⟨c', hc', hm⟩ := mapO_back hps hd
    obtain ⟨u, hu, hfu⟩ := mapO_back hm hv
    have h1 := flatten_get hlen hc' hu
    obtain ⟨x, hx, hrx⟩ := hr.get h1
    refine ⟨x, ?_, hcell x (List.mem_of_getElem? hx), (hf hrx.1 hfu).mono hp.ev.up fun _ _ h => h⟩
    unfold World.cell?
    rw [hw]
    simpa using hc _ x hx
theorem pure_ok {O : Bl} {v : AV} {x : Value} {p : PV} (h : AVRel w O G v x) (hp : pure? v = some p) : PRel w O p x := by
  rw [pure?_some hp] at h
  cases h; assumption
/-- What 'fill' makes of parts in places of s cells each. -/
theorem fillS_ok {s n : Nat} (ev : Operand → Value) : ∀ (ps : List (Nat × Operand)) (xs : Array Value), upTo n ps = true → (∀ p ∈ ps, (ev p.2).cells.size = s) → xs.size = n * s →
    ∃ ys, Instr.fill (fun i => some (i * s, s)) xs (ps.map fun p => (p.1, ev p.2)) = some ys ∧ ys.size = n * s ∧ ∀ i j, i < n → j < s → ys[i * s + j]? = match findPart i ps with
      | some x => (ev x).cells[j]?
      | none => xs[i * s + j]?
  | [], xs, hu, hc, hx => ⟨xs, rfl, hx, fun i j hi hj => rfl⟩
  | (k, x) :: ps, xs, hu, hc, hx => by
    simp only [upTo, Bool.and_eq_true, decide_eq_true_eq, List.all_eq_true, bne_iff_ne] at hu
    obtain ⟨⟨hk, hdis⟩, hu⟩ := hu
    have hsz : (ev x).cells.size = s := hc (k, x) (by simp)
    have hle : k * s + s ≤ n * s := by
      have := Nat.mul_le_mul_right s (show k + 1 ≤ n from hk)
      rw [Nat.add_mul] at this
      omega
    have hput := foldl_put (ev x).cells.toList 0 (k * s) xs (by simp [hsz]; omega)
    simp only [Nat.add_zero, Array.length_toList, hsz] at hput
    obtain ⟨ys, k1, k2, k3⟩ := fillS_ok ev ps ((ev x).cells.zipIdx.foldl (fun cs (c, j) => cs.setIfInBounds (k * s + j) c) xs) hu (fun p hp => hc p (by simp [hp])) (by
      rw [← Array.foldl_toList, Array.toList_zipIdx]
      have := congrArg List.length hput
      simp only [Array.length_toList, List.length_append, List.length_take, List.length_drop, hsz] at this
      have e : (List.foldl (fun cs (x : Value × Nat) => match x with | (c, j) => cs.setIfInBounds (k * s + j) c) xs (List.zipIdx (ev x).cells.toList)).size = (List.foldl (fun cs (p : Value × Nat) => cs.setIfInBounds (k * s + p.2) p.1) xs (List.zipIdx (ev x).cells.toList 0)).size := rfl
      rw [e, this]
      omega)
    refine ⟨ys, ?_, k2, fun i j hi hj => ?_⟩
    · simp only [List.map_cons, Instr.fill]
      rw [if_neg (by simp only [hsz, ne_eq, not_true, decide_false, Bool.false_or, decide_eq_true_eq, gt_iff_lt, Nat.not_lt]; omega)]
      exact k1
    · rw [k3 i j hi hj]
      have e : (List.foldl (fun cs (x : Value × Nat) => match x with | (c, j) => cs.setIfInBounds (k * s + j) c) xs (List.zipIdx (ev x).cells.toList)) = (List.foldl (fun cs (p : Value × Nat) => cs.setIfInBounds (k * s + p.2) p.1) xs (List.zipIdx (ev x).cells.toList 0)) := rfl
      have hget : ∀ m : Nat, ((ev x).cells.zipIdx.foldl (fun cs (c, j) => cs.setIfInBounds (k * s + j) c) xs)[m]? = (xs.toList.take (k * s) ++ (ev x).cells.toList ++ xs.toList.drop (k * s + s))[m]? := by
        intro m
        rw [← hput, ← Array.foldl_toList, Array.toList_zipIdx, e]
        simp
      by_cases hik : k = i
      · subst hik
        have hnone : findPart k ps = none := by
          clear k1 k3 hput hget e hc hx
          induction ps with
          | nil => rfl
          | cons p ps ih =>
            have h1 := hdis p (by simp)
            have h2 : ¬ p.1 = k := fun h => h1 h.symm
            simp only [upTo, Bool.and_eq_true] at hu
            simp only [findPart, h2, if_false]
            exact ih hu.2 fun q hq => hdis q (by simp [hq])
        simp only [hnone, findPart, if_true]
        rw [hget, List.append_assoc, List.getElem?_append_right (by simp; omega), List.getElem?_append_left (by simp [hsz]; omega)]
        have h1 : min (k * s) xs.size = k * s := Nat.min_eq_left (by omega)
        simp [h1]
      · simp only [findPart, hik, if_false]
        cases findPart i ps with
        | some x => rfl
        | none =>
          show ((ev x).cells.zipIdx.foldl (fun cs (c, j) => cs.setIfInBounds (k * s + j) c) xs)[i * s + j]? = xs[i * s + j]?
          rw [hget]
          rcases Nat.lt_or_gt_of_ne hik with h | h
          · have h2 : k * s + s ≤ i * s := by have := Nat.mul_le_mul_right s (show k + 1 ≤ i from h); rw [Nat.add_mul] at this; omega
            rw [List.getElem?_append_right (by simp [hsz]; omega)]
            have h1 : min (k * s) xs.size = k * s := Nat.min_eq_left (by omega)
            simp only [List.length_append, List.length_take, Array.length_toList, h1, hsz, List.getElem?_drop, Array.getElem?_toList]
            congr 1
            omega
          · have h2 : i * s + s ≤ k * s := by have := Nat.mul_le_mul_right s (show i + 1 ≤ k from h); rw [Nat.add_mul] at this; omega
            rw [List.append_assoc, List.getElem?_append_left (by simp; omega)]
            simp [List.getElem?_take]
            intro h3
            omega
theorem elemsC_get : ∀ (n i : Nat) (l : List (Nat × Operand)) (xs : List (Option Opd)), elemsC ρ l i n = some xs → xs.length = n ∧ ∀ j o, xs[j]? = some o → optC ρ (findPart (i + j) l) = some o
  | 0, i, l, xs, h => by cases h; exact ⟨rfl, by simp⟩
  | n + 1, i, l, xs, h => by
    unfold elemsC at h
    split at h <;> try (cases h; done)
    rename_i x ys hx hys
    cases h
    obtain ⟨h1, h2⟩ := elemsC_get n (i + 1) l ys hys
    refine ⟨by simp [h1], fun j o hj => ?_⟩
    cases j with
    | zero => simp at hj; subst hj; exact hx
    | succ j => rw [show i + (j + 1) = i + 1 + j by omega]; exact h2 j o (by simpa using hj)
theorem find_of_upTo {n : Nat} : ∀ {ps : List (Nat × Operand)}, upTo n ps = true → ∀ p ∈ ps, p.1 < n ∧ findPart p.1 ps = some p.2
  | [], _, p, hp => by simp at hp
  | q :: ps, hu, p, hp => by
    simp only [upTo, Bool.and_eq_true, decide_eq_true_eq, List.all_eq_true, bne_iff_ne] at hu
    rcases List.mem_cons.1 hp with rfl | hp
    · exact ⟨hu.1.1, by simp [findPart]⟩
    · obtain ⟨h1, h2⟩ := find_of_upTo hu.2 p hp
      exact ⟨h1, by simp [findPart, hu.1.2 p hp, h2]⟩
theorem nok_slice {L : Nat} (hS : St objs B G w) (hc : Cx ρ fr env a w (Own objs G) G B) {t e : TypeId} {n : Nat} {ps : Array (Nat × Operand)} {z : List AV} {parts : List (Option Opd)} {q : Nat} {r : AV × Option Ob} (hq : ¬ B q) (ht : elemT P t = some e) (hz : zeroA P e = some z)
    (hp : elemsC ρ ps.toList 0 n = some parts) (h1 : upTo n ps.toList = true) (h2 : n * P.cellsOf e ≤ 2 ^ 24) (h3 : 0 < P.cellsOf e) (he : evN (.buildSlice L (P.cellsOf e) z parts) fr env q = some r) :
    Made P objs B G w q (Instr.buildSlice t n (ps.map fun (i, x) => (i, a.eval x))) r := by
  obtain ⟨ie, zv, hie, hzv, hzr, hzc, hzl⟩ := zeroA_ok hz w (Own objs G) G B
  have hu : P.underlying t = some (.slice e) := by
    unfold elemT at ht
    split at ht <;> cases ht
    assumption
  have hsize : ie.size = P.cellsOf e := by simp [Program.cellsOf, hie]
  generalize hs : P.cellsOf e = s at *
  obtain ⟨hpl, hpg⟩ := elemsC_get n 0 ps.toList parts hp
  obtain ⟨es, hes, he⟩ := ob_some.1 (show ob (buildElems fr env s z parts) (fun es => Nat.casesOn (motive := fun _ => Option (AV × Option Ob)) L (Option.rec (motive := fun _ => Option (AV × Option Ob)) (some (.row q s 0 (len es), some (.cells es))) (fun ps => some (.lit ps, none)) (mapO (mapO weak) es))
      (fun mode => Nat.casesOn (motive := fun _ => Option (AV × Option Ob)) mode (some (.row q s 0 (len es), some (mkRow es))) (fun _ => Option.rec (motive := fun _ => Option (AV × Option Ob)) (some (.row q s 0 (len es), some (.cells es))) (fun ps => some (.lit ps, none)) (mapO (mapO pure?) es)))) = some r from he)
  obtain ⟨hel, heg⟩ := mapO_some hes
  have hen : es.length = n := by rw [← hel, hpl]
  -- an element
  have elem : ∀ (i : Nat) (c : List AV), es[i]? = some c → c.length = s ∧ match findPart i ps.toList with
      | some x => ∃ v, c = cellsA v ∧ R w (Own objs G) G B v (a.eval x) ∧ (cellsA v).all isCell = true
      | none => c = z := by
    intro i c hi
    obtain ⟨o, ho, hf⟩ := mapO_back hes hi
    have hpo := hpg i o ho
    rw [Nat.zero_add] at hpo
    cases hfp : findPart i ps.toList with
    | none =>
      rw [hfp] at hpo
      have hx := hc.opt hpo
      cases o with
      | some o => exact hx.elim
      | none => cases hf; exact ⟨by rw [hzl], rfl⟩
    | some x =>
      rw [hfp] at hpo
      have hx := hc.opt hpo
      cases o with
      | none => exact hx.elim
      | some o =>
        obtain ⟨v, hv, hf⟩ := ob_some.1 (show ob (opd o fr env) (fun v => bf (Nat.beq (len (cellsA v)) s) (bf (allL isCell (cellsA v)) (some (cellsA v)) none) none) = some c from hf)
        simp only [bf_some, len_eq, allL_eq] at hf
        obtain ⟨k1, k2, k3⟩ := hf
        cases k3
        exact ⟨Nat.eq_of_beq_eq_true k1, v, rfl, hc.opd hx hv, k2⟩
  have hlen : ∀ c ∈ es, c.length = s := fun c hc => by
    obtain ⟨i, hi⟩ := List.mem_iff_getElem?.1 hc
    exact (elem i c hi).1
  have hparts : ∀ p ∈ ps.toList, (a.eval p.2).cells.size = s := fun p hp => by
    obtain ⟨k1, k2⟩ := find_of_upTo h1 p hp
    obtain ⟨k3, k4⟩ := elem p.1 _ (List.getElem?_eq_getElem (by rw [hen]; exact k1))
    rw [k2] at k4
    obtain ⟨v, k5, k6, _⟩ := k4
    have := (cells_ok k6).1
    rw [← k5, k3] at this
    simpa using this.symm
  have hzs : zv.cells.size = s := by have := hzr.1; rw [hzl] at this; simpa using this.symm
  obtain ⟨ys, y1, y2, y3⟩ := fillS_ok a.eval ps.toList ((Array.range (n * s)).map (zv.cells[· % zv.cells.size]!)) h1 hparts (by simp)
  obtain ⟨hflat, hcell⟩ := flat_of (w := w) (G := G) (B := B) (O := Own objs G) (es := es) (s := s) (ys := ys.toList) h3 hlen (by rw [hen]; simpa using y2) (by
    intro i c j v x hi hj hx
    obtain ⟨k1, k2⟩ := elem i c hi
    have hin : i < n := by rw [← hen]; exact (List.getElem?_eq_some_iff.1 hi).1
    have hjs : j < s := by rw [← k1]; exact (List.getElem?_eq_some_iff.1 hj).1
    have hy := y3 i j hin hjs
    rw [Array.getElem?_toList, hy] at hx
    cases hfp : findPart i ps.toList with
    | none =>
      rw [hfp] at hx k2
      subst k2
      have hlt : i * s + j < n * s := by
        have := Nat.mul_le_mul_right s (show i + 1 ≤ n from hin)
        rw [Nat.add_mul] at this
        omega
      have hmod : (i * s + j) % s = j := by rw [Nat.add_comm, Nat.add_mul_mod_self_right]; exact Nat.mod_eq_of_lt hjs
      have hx' : zv.cells[j]? = some x := by
        have hj' : j < zv.cells.size := by omega
        simp [hlt, hzs, hmod, hj'] at hx
        rw [Array.getElem?_eq_getElem hj', ← hx, getElem!_pos zv.cells j hj']
      exact ⟨hzr.2 j v x hj (by simpa using hx'), hzc x (List.mem_of_getElem? (by simpa using hx' : zv.cells.toList[j]? = some x))⟩
    | some x0 =>
      rw [hfp] at hx k2
      obtain ⟨u, rfl, k3, k4⟩ := k2
      have hx' : (a.eval x0).cells.toList[j]? = some x := by simpa using hx
      exact ⟨(cells_ok k3).2 j v x hj hx', cells_cell k3 k4 x (List.mem_of_getElem? hx')⟩)
  have hrun : (Instr.buildSlice t n (ps.map fun (i, x) => (i, a.eval x))).run P w = .ok (.slice (some ⟨w.heap.size, 0, none⟩) n n) (w.alloc (.cells ys e)) := by
    have epm : (ps.map fun (x : Nat × Operand) => match x with | (i, x) => (i, a.eval x)) = ps.map fun (p : Nat × Operand) => (p.1, a.eval p.2) := rfl
    have hfill : Instr.fill (fun i => some (i * ie.size, ie.size)) ((Array.range (n * ie.size)).map (zv.cells[· % zv.cells.size]!)) (ps.map fun (x : Nat × Operand) => match x with | (i, x) => (i, a.eval x)).toList = some ys := by
      rw [hsize, epm]
      simpa using y1
    by_cases hn : n * ie.size = 0
    · have hn0 : n = 0 := by
        rcases Nat.mul_eq_zero.1 hn with h | h
        · exact h
        · omega
      subst hn0
      have hpe : ps.toList = [] := by
        cases hps : ps.toList with
        | nil => rfl
        | cons p l => exact absurd (find_of_upTo h1 p (by simp [hps])).1 (Nat.not_lt_zero _)
      have hpe' : ps = #[] := by apply Array.ext'; exact hpe
      subst hpe'
      have : ys = #[] := Array.eq_empty_of_size_eq_zero (by rw [y2]; simp)
      subst this
      have hr0 : ∀ f : Nat → Value, (Array.range 0).map f = #[] := fun f => Array.eq_empty_of_size_eq_zero (by simp)
      simp [Instr.buildSlice, run_und w hu, run_size w hie, Instr.fill, newRow, hr0]
    · exact run_buildSlice w t e n _ ys ie zv hu hie hzv (by rw [hsize]; omega) hn hfill
  have hw := alloc_at w (.cells ys e)
  have hE := alloc_ev w (.cells ys e)
  have asRow : ∀ o : Ob, (o = .cells es ∨ o = mkRow es) → r = (.row q s 0 (len es), some o) → Made P objs B G w q (Instr.buildSlice t n (ps.map fun (i, x) => (i, a.eval x))) r := by
    rintro o ho rfl
    have hp := new_row hS hq h3 hlen hflat hcell hw hE (fun j y hy => by simpa using hy) (by simp) ho
    refine ⟨_, _, _, hrun, hp, ?_, fun r hr => .inr (by simpa using hr)⟩
    have := AVRel.row (w := w.alloc (.cells ys e)) (O := Own ((q, o) :: objs) (updG G q ⟨w.heap.size, 0, s⟩)) (G := updG G q ⟨w.heap.size, 0, s⟩) q s 0 (len es) n ys e (by simp [updG]) (by simp [hen]) (by simpa [updG] using hw) (by simp [updG, y2])
    simpa [updG, addO, hen] using this
  have asLit : ∀ (f : AV → Option PV) (qs : List (List PV)), (∀ {v x p}, AVRel w (Own objs G) G v x → f v = some p → PRel w (Own objs G) p x) → mapO (mapO f) es = some qs → r = (.lit qs, none) → Made P objs B G w q (Instr.buildSlice t n (ps.map fun (i, x) => (i, a.eval x))) r := by
    rintro f qs hf hqs rfl
    have hfz := new_fz hS hf hqs h3 hlen hflat hcell hw hE (fun j y hy => by simpa using hy)
    have hql : qs.length = n := by rw [← (mapO_some hqs).1, hen]
    have := hfz.rel (cap := qs.length) (Nat.le_refl _)
    refine ⟨_, _, G, hrun, Post.free hS hE, ?_, by intro r hr; simp at hr⟩
    have := AVRel.lit (G := G) qs _ this
    rwa [hql] at this
  match L, he with
  | 0, he =>
    cases hm : mapO (mapO weak) es with
    | none => rw [hm] at he; cases he; exact asRow _ (.inl rfl) rfl
    | some qs => rw [hm] at he; cases he; exact asLit weak qs (fun h hp => weak_ok h hp) hm rfl
  | 1, he => cases he; exact asRow _ (.inr rfl) rfl
  | m + 2, he =>
    cases hm : mapO (mapO pure?) es with
    | none =>
      have he : Option.rec (motive := fun _ => Option (AV × Option Ob)) (some (.row q s 0 (len es), some (.cells es))) (fun ps => some (.lit ps, none)) (mapO (mapO pure?) es) = some r := he
      rw [hm] at he; cases he; exact asRow _ (.inl rfl) rfl
    | some qs =>
      have he : Option.rec (motive := fun _ => Option (AV × Option Ob)) (some (.row q s 0 (len es), some (.cells es))) (fun ps => some (.lit ps, none)) (mapO (mapO pure?) es) = some r := he
      rw [hm] at he; cases he; exact asLit pure? qs (fun h hp => pure_ok h hp) hm rfl
end
end Go.Ab
namespace Go.Ab
set_option maxRecDepth 8000
set_option linter.unusedVariables false
set_option linter.unusedSimpArgs false
section
variable {P : Program} {objs : Objs} {B : Nat → Prop} {G : Gm} {w w' : World} {ρ : Rho} {fr : Fr} {env : List AV} {a : Act}
theorem made {q : Nat} {s : Sem Value} {r : AV × Option Ob} (h : Made P objs B G w q s r) : ∃ x w' G', (do pure (.value (← s)) : Sem Next).run P w = .ok (.value x) w' ∧ Post objs B G w (addO q r.2 objs) (addB q r.2 B) G' w' ∧ R w' (Own (addO q r.2 objs) G') G' (addB q r.2 B) r.1 x := by
  obtain ⟨x, w', G', h1, h2, h3⟩ := h
  exact ⟨x, w', G', by simp [h1], h2, h3⟩
theorem nop_ok {L : Nat} (hS : St objs B G w) (hc : Cx ρ fr env a w (Own objs G) G B) {o : Oper} {op : NOp} {q : Nat} {r : AV × Option Ob} (hp : nOp P L ρ o.op = some op) (hq : ¬ B q) (he : evN op fr env q = some r) :
    ∃ x w' G', (execOp a.eval o).run P w = .ok (.value x) w' ∧ Post objs B G w (addO q r.2 objs) (addB q r.2 B) G' w' ∧ R w' (Own (addO q r.2 objs) G') G' (addB q r.2 B) r.1 x := by
  obtain ⟨dst, op, ty, q1, q2, gd⟩ := o
  replace hp : nOp P L ρ op = some _ := hp
  unfold nOp at hp
  split at hp
  case h_1 t n ps =>
    split at hp <;> try (cases hp; done)
    rename_i e ht
    split at hp <;> try (cases hp; done)
    rename_i z parts hz hparts
    split at hp <;> try (cases hp; done)
    rename_i hcond
    cases hp
    simp only [Bool.and_eq_true, decide_eq_true_eq] at hcond
    exact made (nok_slice hS hc hq ht hz hparts hcond.1.1.1 hcond.1.1.2 hcond.1.2 he)
  case h_2 t =>
    split at hp <;> try (cases hp; done)
    rename_i z hz
    split at hp <;> try (cases hp; done)
    rename_i h0
    cases hp
    exact made (nok_alloc hS hq hz h0 he)
  case h_3 t x =>
    obtain ⟨o, ho, rfl⟩ := with1_some hp
    exact made (nok_box hS hc hq ho he)
  case h_4 t =>
    cases hp
    exact made (nok_map hS hq he)
  case h_5 s d x =>
    split at hp <;> try (cases hp; done)
    rename_i e hs hd
    split at hp <;> try (cases hp; done)
    rename_i h8
    obtain ⟨o, ho, rfl⟩ := with1_some hp
    exact made (nok_s2b hS hc hs hd h8 ho he)
  case h_6 => cases hp
/-! ### Stores -/
theorem setRow_at {g : Nat} {old cs : Array Value} {t : TypeId} {f : Nat × Nat} (hg : w.heap[g]? = some (.cells old t f)) (b : Nat) : (w.setRow g cs).heap[b]? = if b = g then some (.cells cs t f) else w.heap[b]? := by
  by_cases h : b = g
  · subst h
    rw [if_pos rfl]
    exact setRow_heap w b old cs t f hg
  · rw [if_neg h]
    have : ¬ g = b := fun e => h e.symm
    simp [World.setRow, Array.getElem?_modify, this]
theorem setRow_ev {O : Bl} {g : Nat} {old cs : Array Value} {t : TypeId} {f : Nat × Nat} (hg : w.heap[g]? = some (.cells old t f)) (ho : O g) (hsz : cs.size = old.size) : Ev O w (w.setRow g cs) where
  os := rfl
  tape := rfl
  output := rfl
  size := by simp [World.setRow]
  keep b hb hn := by
    have : b ≠ g := by rintro rfl; exact hn ho
    rw [setRow_at hg, if_neg this]
  shape b c e f' h := by
    rw [setRow_at hg]
    by_cases hbg : b = g
    · subst hbg
      rw [hg] at h
      cases h
      exact ⟨cs, by simp, hsz⟩
    · exact ⟨c, by rw [if_neg hbg]; exact h, rfl⟩
theorem putAt_len {α : Type} (c vs : List α) (off : Nat) (h : off + vs.length ≤ c.length) : (putAt c off vs).length = c.length := by
  rw [putAt_eq]; simp; omega
theorem putAt_get {α : Type} (c vs : List α) (off : Nat) (h : off + vs.length ≤ c.length) (j : Nat) : (putAt c off vs)[j]? = if off ≤ j ∧ j < off + vs.length then vs[j - off]? else c[j]? := by
  rw [putAt_eq]
  have h1 : min off c.length = off := Nat.min_eq_left (by omega)
  by_cases hj : j < off
  · have : ¬ (off ≤ j ∧ j < off + vs.length) := by omega
    rw [if_neg this, List.append_assoc, List.getElem?_append_left (by simp; omega)]
    simp [List.getElem?_take, hj]
  · by_cases hj2 : j < off + vs.length
    · rw [if_pos ⟨by omega, hj2⟩, List.append_assoc, List.getElem?_append_right (by simp; omega), List.getElem?_append_left (by simp [h1]; omega)]
      simp [h1]
    · have : ¬ (off ≤ j ∧ j < off + vs.length) := by omega
      rw [if_neg this, List.getElem?_append_right (by simp [h1]; omega)]
      simp only [List.length_append, List.length_take, h1, List.getElem?_drop]
      congr 1
      omega
/-- A row with cells that are written. -/
theorem row_put {O O' : Bl} {l : Loc} {es : List (List AV)} {i off : Nat} {c vs : List AV} {xs : List Value} {old : Array Value} {e : TypeId} (hr : Row w O G l es) (hi : es[i]? = some c) (hle : off + vs.length ≤ c.length) (hold : w.heap[l.b]? = some (.cells old e (0, 0)))
    (hvs : RL w O G B vs xs) (hcell : AllCell xs) (hw : w'.heap[l.b]? = some (.cells (old.toList.take (l.o + i * l.s + off) ++ xs ++ old.toList.drop (l.o + i * l.s + off + xs.length)).toArray e (0, 0)))
    (hv : ∀ v x, R w O G B v x → AVRel w' O' G v x) (hbel : ∀ r ∈ refsLL es, B r) : Row w' O' G l (es.set i (putAt c off vs)) := by
  obtain ⟨c0, e0, h1, h2, h3, h4⟩ := hr
  rw [hold] at h1
  cases h1
  have hci := h4 i c hi
  have hin : i < es.length := (List.getElem?_eq_some_iff.1 hi).1
  have hxl : vs.length = xs.length := hvs.1
  have hb : l.o + i * l.s + off + xs.length ≤ old.size := by
    have : i * l.s + l.s ≤ es.length * l.s := by have := Nat.mul_le_mul_right l.s (show i + 1 ≤ es.length from hin); rw [Nat.add_mul] at this; omega
    have := hci.1
    omega
  have hget : ∀ m, (old.toList.take (l.o + i * l.s + off) ++ xs ++ old.toList.drop (l.o + i * l.s + off + xs.length)).toArray[m]? = if l.o + i * l.s + off ≤ m ∧ m < l.o + i * l.s + off + xs.length then xs[m - (l.o + i * l.s + off)]? else old[m]? := by
    intro m
    have := putAt_get old.toList xs (l.o + i * l.s + off) (by simpa using hb) m
    rw [putAt_eq] at this
    simpa using this
  refine ⟨_, e, hw, h2, ?_, fun k cs hk => ?_⟩
  · simp; omega
  · rw [List.getElem?_set] at hk
    by_cases hik : i = k
    · subst hik
      simp only [if_true, hin, Option.some.injEq] at hk
      subst hk
      refine ⟨by rw [putAt_len c vs off hle]; exact hci.1, fun j v hj => ?_⟩
      rw [putAt_get c vs off hle] at hj
      rw [hget]
      by_cases hjo : off ≤ j ∧ j < off + vs.length
      · rw [if_pos hjo] at hj
        obtain ⟨x, hx, hR⟩ := hvs.get hj
        refine ⟨x, ?_, hcell x (List.mem_of_getElem? hx), hv v x hR⟩
        rw [if_pos (by omega), show l.o + i * l.s + j - (l.o + i * l.s + off) = j - off by omega]
        exact hx
      · rw [if_neg hjo] at hj
        obtain ⟨x, hx, hcx, hR⟩ := hci.2 j v hj
        refine ⟨x, ?_, hcx, hv v x ⟨hR, fun r hr => hbel r (refsLL_get hi (refsL_get hj hr))⟩⟩
        rw [if_neg (by omega)]
        exact hx
    · simp only [hik, if_false] at hk
      obtain ⟨k1, k2⟩ := h4 k cs hk
      refine ⟨k1, fun j v hj => ?_⟩
      obtain ⟨x, hx, hcx, hR⟩ := k2 j v hj
      refine ⟨x, ?_, hcx, hv v x ⟨hR, fun r hr => hbel r (refsLL_get hk (refsL_get hj hr))⟩⟩
      rw [hget, if_neg]
      · exact hx
      · have hjl : j < l.s := by rw [← k1]; exact (List.getElem?_eq_some_iff.1 hj).1
        have hoff : off + xs.length ≤ l.s := by rw [← hci.1]; omega
        rcases Nat.lt_or_gt_of_ne hik with h | h
        · have : i * l.s + l.s ≤ k * l.s := by have := Nat.mul_le_mul_right l.s (show i + 1 ≤ k from h); rw [Nat.add_mul] at this; omega
          omega
        · have : k * l.s + l.s ≤ i * l.s := by have := Nat.mul_le_mul_right l.s (show k + 1 ≤ i from h); rw [Nat.add_mul] at this; omega
          omega
end
end Go.Ab
