/- Regions walked by relations, with longer chains than Flow looks through. -/
import Derived.Test.YtieaicdihingkaaFlow
namespace Go.Proofs.Ytieaicdihingkaa
open Go Go.RowKit
set_option linter.unusedVariables false
set_option linter.unusedSimpArgs false
set_option linter.unnecessarySimpa false
section
variable {P : Program} {Q : Exit → Act → World → Prop} {R : Nat → Value → World → Prop}
/-- What the order of the text must bear, and the lists of what each operation waits for. -/
def flowROkX (l : List Oper) (D : List (List (Nat × Nat))) : Bool :=
 l.length == D.length && 0 < l.length &&
 (List.range l.length).all fun i => match l[i]?, D[i]? with
  | some o, some ds =>
   (match o.op with | .select .. => false | _ => true) && (o.after.all fun e => !Region.binds .any e || decide (e.on < i)) &&
   (ds.all fun tj => ((closeB l 9 [i]).contains tj.2 && tj.2 != i) && ((l[tj.2]?).bind (·.dst)) == some tj.1) &&
   ((List.range l.length).all fun j => match l[j]? with
    | none => true
    | some p =>
     (i + 1 != l.length || j == i || (closeB l 9 [i]).contains j) &&
     match p.dst with
     | none => true
     | some t => (!((o.looksAt l.toArray).contains t && (j + 1 != l.length || i == j) || i + 1 == l.length && j != i) || ds.any (fun tj => tj.1 == t && tj.2 == j)) && (i == j || o.dst != some t))
  | _, _ => false
structure RSpecX (l : List Oper) (ds : List (Nat × Nat)) (i : Nat) (o : Oper) : Prop where
 sel : ∀ cs b, o.op ≠ .select cs b
 back : ∀ e ∈ o.after, Region.binds .any e = true → e.on < i
 dep : ∀ tj ∈ ds, (tj.2 ∈ closeB l 9 [i] ∧ tj.2 ≠ i) ∧ ∃ p, l[tj.2]? = some p ∧ p.dst = some tj.1
 looks : ∀ j p t, l[j]? = some p → p.dst = some t → t ∈ o.looksAt l.toArray → j + 1 ≠ l.length → (t, j) ∈ ds
 last : i + 1 = l.length → ∀ j p, l[j]? = some p → j ≠ i → j ∈ closeB l 9 [i]
 lastD : i + 1 = l.length → ∀ j p t, l[j]? = some p → j ≠ i → p.dst = some t → (t, j) ∈ ds
 one : ∀ j p t, l[j]? = some p → p.dst = some t → i ≠ j → o.dst ≠ some t
theorem flowROk_specX {l : List Oper} {D : List (List (Nat × Nat))} (h : flowROkX l D = true) (i : Nat) (o : Oper) (hi : l[i]? = some o) : ∃ ds, D[i]? = some ds ∧ RSpecX l ds i o := by
 unfold flowROkX at h
 simp only [Bool.and_eq_true] at h
 obtain ⟨⟨h0, _⟩, h⟩ := h
 have hlt := (List.getElem?_eq_some_iff.1 hi).1
 have h1 := (List.all_eq_true.1 h) i (List.mem_range.2 hlt)
 have hlD : i < D.length := by rw [beq_iff_eq] at h0; omega
 have hD : D[i]? = some D[i] := List.getElem?_eq_getElem hlD
 rw [hi, hD] at h1
 simp only [Bool.and_eq_true] at h1
 obtain ⟨⟨⟨h2, h3⟩, h4⟩, h5⟩ := h1
 have any_spec : ∀ j, (o.after.any fun e => Region.binds .any e && e.on == j) = true → ∃ e ∈ o.after, Region.binds .any e = true ∧ e.on = j := fun j hj => by
  obtain ⟨k, hk, hk2⟩ := Array.any_eq_true.1 hj
  simp only [Bool.and_eq_true, beq_iff_eq] at hk2
  exact ⟨o.after[k], Array.getElem_mem hk, hk2.1, hk2.2⟩
 refine ⟨D[i], hD, fun cs b e => by rw [e] at h2; simp at h2, fun e he hb => ?_, fun tj htj => ?_, fun j p t hj ht hm hjl => ?_, fun hl j p hj hne => ?_, fun hl j p t hj hne ht => ?_, fun j p t hj ht hne hd => ?_⟩
 ·have := (Array.all_eq_true_iff_forall_mem.1 h3) e he
  simpa [hb] using this
 ·have := (List.all_eq_true.1 h4) tj htj
  simp only [Bool.and_eq_true, beq_iff_eq, bne_iff_ne] at this
  refine ⟨⟨by simpa using this.1.1, this.1.2⟩, ?_⟩
  cases hp : l[tj.2]? with
  | none => rw [hp] at this; simp at this
  | some p => exact ⟨p, rfl, by simpa [hp] using this.2⟩
 all_goals
  have hx := (List.all_eq_true.1 h5) j (List.mem_range.2 (List.getElem?_eq_some_iff.1 hj).1)
  simp only [hj, Bool.and_eq_true] at hx
  obtain ⟨hx1, hx2⟩ := hx
 ·simp only [ht, Bool.and_eq_true, Bool.or_eq_true, Bool.not_eq_true'] at hx2
  rcases hx2.1 with hx3 | hx3
  ·simp only [Bool.or_eq_false_iff] at hx3
   have : (o.looksAt l.toArray).contains t = true := by simpa using hm
   rw [this] at hx3
   simp [hjl] at hx3
  ·obtain ⟨tj, htj, e⟩ := List.any_eq_true.1 hx3
   simp only [Bool.and_eq_true, beq_iff_eq] at e
   obtain ⟨a, b⟩ := tj
   simp only at e
   obtain ⟨rfl, rfl⟩ := e
   exact htj
 ·simp only [hl, bne_self_eq_false, Bool.false_or, Bool.or_eq_true, beq_iff_eq] at hx1
  simpa using hx1.resolve_left hne
 ·simp only [ht, Bool.and_eq_true, Bool.or_eq_true, Bool.not_eq_true'] at hx2
  rcases hx2.1 with hx3 | hx3
  ·simp [hl, hne] at hx3
  ·obtain ⟨tj, htj, e⟩ := List.any_eq_true.1 hx3
   simp only [Bool.and_eq_true, beq_iff_eq] at e
   obtain ⟨a, b⟩ := tj
   simp only at e
   obtain ⟨rfl, rfl⟩ := e
   exact htj
 ·simp only [ht, Bool.and_eq_true, Bool.or_eq_true] at hx2
  rcases hx2.2 with hx3 | hx3
  ·exact hne (by simpa using hx3)
  ·rw [hd] at hx3; simp at hx3
theorem flowR_anyX {l : List Oper} {D : List (List (Nat × Nat))} {W : World} {a0 : Act} (hok : flowROkX l D = true) (hF : FlowR P l.toArray Q W R a0 l D 0) :
  ∀ (fuel : Nat) (rs : List Nat) (listed : Array Bool) (val : Nat → Value) (a : Act) (w : World), rs.length ≤ fuel → (∀ i, i < l.length → listed.getD i true = false → i ∈ rs) → listed.size = l.length →
   listed.getD (l.length - 1) true = false → (∀ k j, k < l.length → listed.getD k true = true → edgeB l k j = true → listed.getD j true = true) → Agr l val a0 (fun i => listed.getD i true = true) a → (∀ i, i < l.length → listed.getD i true = true → Since R i (val i) w) → Below W.heap.size W w → wpAny P .any l.toArray Q fuel listed a w := by
 have hpos : 0 < l.length := by
  unfold flowROkX at hok
  simp only [Bool.and_eq_true, decide_eq_true_eq] at hok
  exact hok.1.2
 have hdist : ∀ (i : Nat) (o : Oper), l[i]? = some o → ∀ (j : Nat) (p : Oper) (t : Nat), l[j]? = some p → p.dst = some t → i ≠ j → o.dst ≠ some t := fun i o hi => by
  obtain ⟨ds, _, hs⟩ := flowROk_specX hok i o hi
  exact hs.one
 intro fuel
 induction fuel with
 | zero =>
  intro rs listed val a w hlen hrs hsz hlast hdc hag hR hB
  have := hrs (l.length - 1) (by omega) hlast
  have h0 : rs = [] := List.length_eq_zero_iff.1 (by omega)
  rw [h0] at this
  cases this
 | succ fuel ih =>
  intro rs listed val a w hlen hrs hsz hlast hdc hag hR hB
  have hun : Region.ready .any l.toArray listed ≠ [] := by
   intro hr
   have key : ∀ n i, i ≤ n → i < l.length → listed.getD i true = true := by
    intro n
    induction n with
    | zero =>
     intro i hin hi
     obtain rfl : i = 0 := by omega
     refine Classical.byContradiction fun hne => ?_
     have ho : l[0]? = some l[0] := List.getElem?_eq_getElem hi
     obtain ⟨ds, _, hs⟩ := flowROk_specX hok 0 _ ho
     have : 0 ∈ Region.ready .any l.toArray listed := mem_ready.2 ⟨by simpa using hne, l[0], by simpa using ho, fun e he hb => by
      have := hs.back e he hb
      omega⟩
     rw [hr] at this
     cases this
    | succ n ihn =>
     intro i hin hi
     by_cases hlt : i ≤ n
     ·exact ihn i hlt hi
     refine Classical.byContradiction fun hne => ?_
     have ho : l[i]? = some l[i] := List.getElem?_eq_getElem hi
     obtain ⟨ds, _, hs⟩ := flowROk_specX hok i _ ho
     have : i ∈ Region.ready .any l.toArray listed := mem_ready.2 ⟨by simpa using hne, l[i], by simpa using ho, fun e he hb => by
      have h1 := hs.back e he hb
      have h2 := ihn e.on (by omega) (by omega)
      have h3 : e.on < listed.size := by omega
      simpa [h3] using h2⟩
     rw [hr] at this
     cases this
   have := key (l.length - 1) (l.length - 1) (Nat.le_refl _) (by omega)
   rw [hlast] at this
   cases this
  refine ⟨fun hr => absurd hr hun, fun i hi => ?_⟩
  obtain ⟨h0, o, ho, hall⟩ := mem_ready.1 hi
  have hlt : i < l.length := by simpa using (Array.getElem?_eq_some_iff.1 ho).1
  have ho' : l[i]? = some o := by simpa using ho
  obtain ⟨ds, hds, spec⟩ := flowROk_specX hok i o ho'
  have hget := flowR_get l D 0 hF i o ds ho' hds
  have hon : ∀ j, (∃ e ∈ o.after, Region.binds .any e = true ∧ e.on = j) → listed.getD j true = true := fun j ⟨e, he, hb, hj⟩ => by
   subst hj
   have h2 := hall e he hb
   have h1 := spec.back e he hb
   have h3 : e.on < listed.size := by omega
   simpa [h3] using h2
  have heq : ∀ j, (listed.setIfInBounds i true).getD j true = true ↔ (listed.getD j true = true ∨ j = i) := fun j => by
   by_cases hij : i = j
   ·subst hij
    have : i < listed.size := by omega
    simp [this]
   ·rw [getD_set_ne true hij]; simp [Ne.symm hij]
  have hei : ∀ j, edgeB l i j = true → listed.getD j true = true := fun j he => by
   unfold edgeB at he
   rw [ho'] at he
   obtain ⟨k, hk, hk2⟩ := Array.any_eq_true.1 he
   simp only [Bool.and_eq_true, beq_iff_eq] at hk2
   exact hon j ⟨o.after[k], Array.getElem_mem hk, hk2.1, hk2.2⟩
  have hdc' : ∀ k j, k < l.length → (listed.setIfInBounds i true).getD k true = true → edgeB l k j = true → (listed.setIfInBounds i true).getD j true = true := fun k j hk hkl he => (heq j).2 (.inl (by
   rcases (heq k).1 hkl with h1 | rfl
   ·exact hdc k j hk h1 he
   ·exact hei j he))
  have hcl : ∀ j, j ≠ i → j ∈ closeB l 9 [i] → listed.getD j true = true := fun j hj hm => by
   have := closeB_listed (l := l) (i := i) (G := fun j => listed.getD j true = true) hei (fun k hk j he => by
    by_cases hkl : k < l.length
    ·exact hdc k j hkl hk he
    ·unfold edgeB at he
     rw [List.getElem?_eq_none (by omega)] at he
     cases he) 9 [i] (fun k hk => .inl (by simpa using hk)) j hm
   exact this.resolve_left hj
  have hds2 : ∀ tj ∈ ds, Since R tj.2 (val tj.2) w := fun tj htj => by
   obtain ⟨h1, p, hp, _⟩ := spec.dep tj htj
   exact hR tj.2 (List.getElem?_eq_some_iff.1 hp).1 (hcl _ h1.2 h1.1)
  have huniq : ∀ t j k, (t, j) ∈ ds → (t, k) ∈ ds → k = j := fun t j k h1 h2 => by
   obtain ⟨_, p, hp, hpt⟩ := spec.dep _ h1
   obtain ⟨_, q, hq, hqt⟩ := spec.dep _ h2
   refine Classical.byContradiction fun hne => ?_
   exact hdist k q hq j p t hp hpt hne hqt
  have hthere : ∀ t j, (t, j) ∈ ds → a.tmps[t]? = (putAll val ds a0).tmps[t]? := fun t j htj => by
   obtain ⟨h1, p, hp, hpt⟩ := spec.dep _ htj
   rw [hag.there j p t hp hpt (hcl _ h1.2 h1.1), putAll_there val t j ds a0 htj (fun k hk => huniq t j k htj hk)]
  have hsame : ∀ t, (∀ j p, l[j]? = some p → p.dst = some t → listed.getD j true = true → (t, j) ∈ ds) → a.tmps[t]? = (putAll val ds a0).tmps[t]? := fun t ht => by
   by_cases he : ∃ j, (t, j) ∈ ds
   ·obtain ⟨j, hj⟩ := he
    exact hthere t j hj
   ·rw [putAll_free val t ds a0 (fun tj htj e => he ⟨tj.2, by rw [← e]; exact htj⟩)]
    exact hag.free t fun j p hj hL e => he ⟨j, ht j p hj e hL⟩
  have hdef : a.defers = (putAll val ds a0).defers := hag.defers.trans (putAll_defers val ds a0).symm
  have hsiz : a.tmps.size = (putAll val ds a0).tmps.size := hag.size.trans (putAll_size val ds a0).symm
  by_cases hil : i + 1 = l.length
  ·have hoth : ∀ j p, l[j]? = some p → j ≠ i → listed.getD j true = true := fun j p hj hne => hcl j hne (spec.last hil j p hj hne)
   have heq : a = putAll val ds a0 := act_ext hdef fun t => hsame t fun j p hj ht hL => spec.lastD hil j p t hj (fun e => by subst e; rw [h0] at hL; cases hL) ht
   have h1 := dep_at val ds a0 _ hds2 (hget.1 hil w hB)
   rw [← heq] at h1
   refine lastAt h1 ho fun a' w' hQ => ?_
   have hnil : Region.ready .any l.toArray (listed.setIfInBounds i true) = [] := by
    cases hr : Region.ready .any l.toArray (listed.setIfInBounds i true) with
    | nil => rfl
    | cons x xs =>
     have hx : x ∈ Region.ready .any l.toArray (listed.setIfInBounds i true) := by rw [hr]; exact List.mem_cons_self ..
     obtain ⟨hx0, p, hp, _⟩ := mem_ready.1 hx
     by_cases hxi : i = x
     ·subst hxi
      have : i < listed.size := by omega
      simp [this] at hx0
     ·rw [getD_set_ne true hxi, hoth x p (by simpa using hp) (Ne.symm hxi)] at hx0
      cases hx0
   cases fuel with
   | zero => exact ⟨hnil, hQ⟩
   | succ f => exact ⟨fun _ => hQ, by rw [hnil]; simp⟩
  ·have h1 := dep_at val ds a0 _ hds2 (hget.2 hil w hB)
   have hev : ∀ x ∈ o.op.operands, a.eval x = (putAll val ds a0).eval x := fun x hx => by
    cases x with
    | tmp t =>
     have := hsame t fun j p hj ht hL => spec.looks j p t hj ht (List.mem_append_left _ (List.mem_filterMap.2 ⟨.tmp t, by simpa using hx, rfl⟩)) (fun e => by rw [show j = l.length - 1 by omega, hlast] at hL; cases hL)
     simp only [Act.eval, Array.getD_eq_getD_getElem?, this]
    | _ => rfl
   refine relatedAt (G := fun v w' => R (0 + i) v w' ∧ Below w.heap.size w w') (fun K hK => h1 K (fun v w' hv hb => hK v w' ⟨hv, hb⟩)) hdef hsiz (execOp_congr o spec.sel hev) ?_ ho fun v w' ⟨hv, hb⟩ => ?_
   ·unfold Region.wanted
    cases hg : o.guard with
    | none => rfl
    | some gw =>
     obtain ⟨g, want⟩ := gw
     simp only []
     have : yielded l.toArray a.tmps g = yielded l.toArray (putAll val ds a0).tmps g := by
      unfold yielded
      cases ht : (l.toArray[g]?).bind (·.dst) with
      | none => rfl
      | some t => simp only [Option.bind_some, hsame t fun j p hj hp hL => spec.looks j p t hj hp (by simp only [Oper.looksAt, hg, ht, List.mem_append]; right; simp) (fun e => by rw [show j = l.length - 1 by omega, hlast] at hL; cases hL)]
     rw [this]
   ·have hmem := hrs i hlt h0
    have hne : i ≠ l.length - 1 := by omega
    have hval : ∀ j, listed.getD j true = true → j < l.length → val j = (if j = i then v else val j) := fun j hj _ => by
     by_cases e : j = i
     ·subst e; rw [h0] at hj; cases hj
     ·rw [if_neg e]
    refine ih (rs.erase i) _ (fun j => if j = i then v else val j) _ _ (by have := List.length_erase_of_mem hmem; have := List.length_pos_of_mem hmem; omega) (fun j hj hjl => ?_) (by simpa using hsz) (by rw [getD_set_ne true hne]; exact hlast) hdc' ?_ (fun j hj hjl => ?_) (below_next hB hb)
    ·by_cases hij : i = j
     ·subst hij
      have : i < listed.size := by omega
      simp [this] at hjl
     ·rw [getD_set_ne true hij] at hjl
      exact (List.mem_erase_of_ne (Ne.symm hij)).2 (hrs j hj hjl)
    ·have hag2 : Agr l (fun j => if j = i then v else val j) a0 (fun i => listed.getD i true = true) a := hag.congr fun j hj => by
      by_cases e : j = i
      ·subst e; rw [h0] at hj; cases hj
      ·simp only [if_neg e]
     have := hag2.put ho' (fun j p t hj hp hne => spec.one j p t hj hp hne)
     simp only [if_pos] at this
     have el : (fun j => listed.getD j true = true ∨ j = i) = (fun j => (listed.setIfInBounds i true).getD j true = true) := funext fun j => propext (by
      by_cases hij : i = j
      ·subst hij
       have : i < listed.size := by omega
       simp [this]
      ·rw [getD_set_ne true hij]; simp [Ne.symm hij])
     rw [el] at this
     exact this
    ·by_cases hij : i = j
     ·subst hij
      simp only [if_pos]
      rw [Nat.zero_add] at hv
      exact ⟨w', hv, Below.refl _ _⟩
     ·rw [getD_set_ne true hij] at hjl
      obtain ⟨w1, h1, h2⟩ := hR j hj hjl
      simp only [if_neg (Ne.symm hij)]
      exact ⟨w1, h1, below_next h2 hb⟩
/-- **The region**, its last operation the only one that may write. -/
theorem wp_region_flowRX (D : List (List (Nat × Nat))) (R : Nat → Value → World → Prop) {id : Nat} {l : List Oper} {a : Act} {W : World} (hm : P.follows .mixedOrders = true) (hok : flowROkX l D = true)
  (h : FlowR P l.toArray Q W R a l D 0) : (Code.region id l.toArray true).wp P Q a W := by
 have hpos : 0 < l.length := by
  unfold flowROkX at hok
  simp only [Bool.and_eq_true, decide_eq_true_eq] at hok
  exact hok.1.2
 have hlz : (Array.replicate l.toArray.size false).getD (l.length - 1) true = false := by
  have : l.length - 1 < l.length := by omega
  simp [this]
 refine wp_region_any hm ?_
 refine flowR_anyX hok h _ (List.range l.length) _ (fun _ => undef) _ _ (by simp) (fun i hi _ => by simpa using hi) (by simp) hlz (fun k j hk hkl _ => by simp [hk] at hkl) ?_ (fun i hi hL => ?_) (Below.drew (Below.refl _ _))
 ·refine ⟨rfl, rfl, fun i o d hi hd hL => ?_, fun t _ => rfl⟩
  have hlt := (List.getElem?_eq_some_iff.1 hi).1
  simp [hlt] at hL
 ·simp [hi] at hL
end
end Go.Proofs.Ytieaicdihingkaa
