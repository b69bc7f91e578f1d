/- As FlowS, the operations that read memory by a list. A region that draws its order and ends in stores: the values by relations, the pure operations by their values, the stores in the order of the text. -/
import Derived.Test.YtieaicdihingkaaGreatFlow
namespace Go.Proofs.YtieaicdihingkaaGreat
open Go Go.RowKit
set_option linter.unusedVariables false
set_option linter.unusedSimpArgs false
set_option linter.unnecessarySimpa false
section
variable {P : Program} {Q : Exit → Act → World → Prop} {R : Nat → Value → World → Prop} {S : World → Prop}
/-- As Dep, of values alone. -/
def DepP (R : Nat → Value → World → Prop) : List (Nat × Nat) → Act → (Act → Prop) → Prop
 | [], a, k => k a
 | (t, j) :: ds, a, k => ∀ v, (∃ w1, R j v w1) → DepP R ds (a.put (some t) v) k
/-- The stores. -/
def isT (Ts : List Nat) (i : Nat) (_ : Oper) : Bool := Ts.contains i
def tailOf (m : List Nat) : List Oper → Nat → List (Nat × Oper)
 | [], _ => []
 | o :: l, i => if isT m i o = true then (i, o) :: tailOf m l (i + 1) else tailOf m l (i + 1)
theorem tailOf_mem {m : List Nat} : ∀ (l : List Oper) (n i : Nat) (o : Oper), (i, o) ∈ tailOf m l n ↔ n ≤ i ∧ l[i - n]? = some o ∧ isT m i o = true
 | [], n, i, o => by simp [tailOf]
 | p :: l, n, i, o => by
  have ih := tailOf_mem (m := m) l (n + 1) i o
  have key : (n ≤ i ∧ (p :: l)[i - n]? = some o ∧ isT m i o = true) ↔ ((i = n ∧ o = p ∧ isT m n p = true) ∨ (n + 1 ≤ i ∧ l[i - (n + 1)]? = some o ∧ isT m i o = true)) := by
   constructor
   ·rintro ⟨h1, h2, h3⟩
    by_cases e : i = n
    ·subst e
     simp at h2
     subst h2
     exact .inl ⟨rfl, rfl, h3⟩
    ·refine .inr ⟨by omega, ?_, h3⟩
     rw [show i - n = (i - (n + 1)) + 1 by omega] at h2
     simpa using h2
   ·rintro (⟨rfl, rfl, h3⟩ | ⟨h1, h2, h3⟩)
    ·exact ⟨Nat.le_refl _, by simp, h3⟩
    ·refine ⟨by omega, ?_, h3⟩
     rw [show i - n = (i - (n + 1)) + 1 by omega]
     simpa using h2
  rw [key, ← ih]
  have eq : tailOf m (p :: l) n = if isT m n p = true then (n, p) :: tailOf m l (n + 1) else tailOf m l (n + 1) := rfl
  rw [eq]
  split
  ·rename_i h
   simp only [List.mem_cons, Prod.mk.injEq, h, and_true]
  ·rename_i h
   constructor
   ·exact fun h => .inr h
   ·rintro (⟨_, _, h3⟩ | h)
    ·exact absurd h3 h
    ·exact h
theorem tailOf_lt {m : List Nat} : ∀ (l : List Oper) (n : Nat), (tailOf m l n).Pairwise fun a b => a.1 < b.1
 | [], n => by simp [tailOf]
 | p :: l, n => by
  unfold tailOf
  split
  ·refine List.Pairwise.cons (fun x hx => ?_) (tailOf_lt l (n + 1))
   obtain ⟨i, o⟩ := x
   have := ((tailOf_mem l (n + 1) i o).1 hx).1
   simp only
   omega
  ·exact tailOf_lt l (n + 1)
def TailS (P : Program) (ops : Array Oper) (Q : Exit → Act → World → Prop) : List (Nat × Oper) → Act → World → Prop
 | [], a, w => Q .normal a w
 | (_, o) :: l, a, w => ∀ K : Act → World → Prop, (∀ v w', TailS P ops Q l (a.put o.dst v) w' → K (a.put o.dst v) w') → if Region.wanted o (yielded ops a.tmps) = true then Oper.wp P o a w K (fun _ _ _ => False) else K (a.put o.dst undef) w
theorem depP_at (val : Nat → Value) : ∀ (ds : List (Nat × Nat)) (a : Act) (k : Act → Prop), (∀ tj ∈ ds, ∃ w1, R tj.2 (val tj.2) w1) → DepP R ds a k → k (putAll val ds a)
 | [], a, k, _, h => h
 | (t, j) :: ds, a, k, hv, h => depP_at val ds _ k (fun tj htj => hv tj (List.mem_cons_of_mem _ htj)) (h _ (hv (t, j) (List.mem_cons_self ..)))
def MemAtT (P : Program) (ops : Array Oper) (W : World) (R : Nat → Value → World → Prop) (a0 : Act) (o : Oper) (ds : List (Nat × Nat)) (i : Nat) : Prop :=
 ∀ w, Below W.heap.size W w → Dep R w ds a0 fun a => ∀ K : Act → World → Prop, (∀ v w', R i v w' → Below w.heap.size w w' → K (a.put o.dst v) w') → if Region.wanted o (yielded ops a.tmps) = true then Oper.wp P o a w K (fun _ _ _ => False) else K (a.put o.dst undef) w
def PureAtT (P : Program) (ops : Array Oper) (R : Nat → Value → World → Prop) (a0 : Act) (o : Oper) (ds : List (Nat × Nat)) (i : Nat) (u : Value) : Prop :=
 (∀ v w, R i v w ↔ v = u) ∧ DepP R ds a0 fun a => ∀ (w : World) (K : Act → World → Prop), K (a.put o.dst u) w → if Region.wanted o (yielded ops a.tmps) = true then Oper.wp P o a w K (fun _ _ _ => False) else K (a.put o.dst undef) w
def FlowT (P : Program) (ops : Array Oper) (W : World) (R : Nat → Value → World → Prop) (a0 : Act) (m : List Nat) (Ts : List Nat) : List Oper → List (List (Nat × Nat)) → Nat → Prop
 | [], _, _ => True
 | o :: l, ds :: D, i => (if i ∈ m then MemAtT P ops W R a0 o ds i else Ts.contains i = false → ∃ u, PureAtT P ops R a0 o ds i u) ∧ FlowT P ops W R a0 m Ts l D (i + 1)
 | _ :: _, [], _ => False
theorem FlowT.mem {ops : Array Oper} {W : World} {a0 : Act} {m : List Nat} {Ts : List Nat} {o : Oper} {l : List Oper} {ds : List (Nat × Nat)} {D : List (List (Nat × Nat))} {i : Nat} (hi : i ∈ m) (h1 : MemAtT P ops W R a0 o ds i) (h2 : FlowT P ops W R a0 m Ts l D (i + 1)) : FlowT P ops W R a0 m Ts (o :: l) (ds :: D) i := ⟨by rw [if_pos hi]; exact h1, h2⟩
theorem FlowT.val {ops : Array Oper} {W : World} {a0 : Act} {m : List Nat} {Ts : List Nat} {o : Oper} {l : List Oper} {ds : List (Nat × Nat)} {D : List (List (Nat × Nat))} {i : Nat} (hi : ¬ i ∈ m) (u : Value) (hR : ∀ v w, R i v w ↔ v = u)
  (h1 : DepP R ds a0 fun a => ∀ (w : World) (K : Act → World → Prop), K (a.put o.dst u) w → if Region.wanted o (yielded ops a.tmps) = true then Oper.wp P o a w K (fun _ _ _ => False) else K (a.put o.dst undef) w) (h2 : FlowT P ops W R a0 m Ts l D (i + 1)) : FlowT P ops W R a0 m Ts (o :: l) (ds :: D) i := ⟨by rw [if_neg hi]; exact fun _ => ⟨u, hR, h1⟩, h2⟩
theorem FlowT.store {ops : Array Oper} {W : World} {a0 : Act} {m : List Nat} {Ts : List Nat} {o : Oper} {l : List Oper} {ds : List (Nat × Nat)} {D : List (List (Nat × Nat))} {i : Nat} (hi : ¬ i ∈ m) (hd : Ts.contains i = true) (h2 : FlowT P ops W R a0 m Ts l D (i + 1)) : FlowT P ops W R a0 m Ts (o :: l) (ds :: D) i := ⟨(by rw [if_neg hi]; exact fun h => (by rw [hd] at h; cases h)), h2⟩
theorem FlowT.nil {ops : Array Oper} {W : World} {a0 : Act} {m : List Nat} {Ts : List Nat} {D : List (List (Nat × Nat))} {i : Nat} : FlowT P ops W R a0 m Ts [] D i := trivial
def flowTOk (l : List Oper) (D : List (List (Nat × Nat))) (E : List (Nat × Nat)) (m : List Nat) (Ts : List Nat) : Bool :=
 l.length == D.length &&
 ((List.range l.length).all fun i => match l[i]?, D[i]? with
  | some o, some ds =>
   (match o.op with | .select .. => false | _ => true) && (o.after.all fun e => !Region.binds .any e || decide (e.on < i)) && (!Ts.contains i || decide (¬ i ∈ m)) && (Ts.contains i || o.dst.isSome) &&
   (ds.all fun tj => (o.after.any fun e => Region.binds .any e && e.on == tj.2) && ((l[tj.2]?).bind (·.dst)) == some tj.1 && (Ts.contains i || !Ts.contains tj.2)) &&
   ((List.range l.length).all fun j => match l[j]? with
    | none => true
    | some p =>
     (!Ts.contains i || !(decide (j ∈ m) || (decide (j < i) && Ts.contains j)) || (closeB l 9 [i]).contains j) &&
     match p.dst with
     | none => true
     | some t => (!((o.looksAt l.toArray).contains t) || ds.any (fun tj => tj.1 == t && tj.2 == j)) && (i == j || o.dst != some t) && (Ts.contains j || E.any (fun tj => tj.1 == t && tj.2 == j)))
  | _, _ => false) &&
 E.all fun tj => ((l[tj.2]?).bind (·.dst)) == some tj.1 && !Ts.contains tj.2
structure TSpec (l : List Oper) (E ds : List (Nat × Nat)) (m : List Nat) (Ts : List Nat) (i : Nat) (o : Oper) : Prop where
 sel : ∀ cs b, o.op ≠ .select cs b
 back : ∀ e ∈ o.after, Region.binds .any e = true → e.on < i
 late : Ts.contains i = true → ¬ i ∈ m
 hasD : Ts.contains i = false → o.dst ≠ none
 dep : ∀ tj ∈ ds, (∃ e ∈ o.after, Region.binds .any e = true ∧ e.on = tj.2) ∧ (∃ p, l[tj.2]? = some p ∧ p.dst = some tj.1) ∧ (Ts.contains i = false → Ts.contains tj.2 = false)
 looks : ∀ j p t, l[j]? = some p → p.dst = some t → t ∈ o.looksAt l.toArray → (t, j) ∈ ds
 tail : Ts.contains i = true → ∀ j p, l[j]? = some p → (j ∈ m ∨ (j < i ∧ Ts.contains j = true)) → j ∈ closeB l 9 [i]
 one : ∀ j p t, l[j]? = some p → p.dst = some t → i ≠ j → o.dst ≠ some t
theorem flowTOk_spec {l : List Oper} {D : List (List (Nat × Nat))} {E : List (Nat × Nat)} {m : List Nat} {Ts : List Nat} (h : flowTOk l D E m Ts = true) :
  (∀ i o, l[i]? = some o → (∃ ds, D[i]? = some ds ∧ TSpec l E ds m Ts i o) ∧ ∀ t, o.dst = some t → Ts.contains i = false → (t, i) ∈ E) ∧ (∀ tj ∈ E, (∃ p, l[tj.2]? = some p ∧ p.dst = some tj.1) ∧ Ts.contains tj.2 = false) := by
 unfold flowTOk at h
 simp only [Bool.and_eq_true] at h
 obtain ⟨⟨h0, h⟩, hE⟩ := h
 have dst_of : ∀ (j t : Nat), ((l[j]?).bind (·.dst) == some t) = true → ∃ p, l[j]? = some p ∧ p.dst = some t := fun j t hj => by
  rw [beq_iff_eq] at hj
  cases hp : l[j]? with
  | none => rw [hp] at hj; simp at hj
  | some p => exact ⟨p, rfl, by simpa [hp] using hj⟩
 refine ⟨fun i o hi => ?_, fun tj htj => ?_⟩
 rotate_left
 ·have := (List.all_eq_true.1 hE) tj htj
  simp only [Bool.and_eq_true, Bool.not_eq_true'] at this
  exact ⟨dst_of _ _ this.1, this.2⟩
 have hlt := (List.getElem?_eq_some_iff.1 hi).1
 have h1 := (List.all_eq_true.1 h) i (List.mem_range.2 hlt)
 have hlD : i < D.length := by rw [beq_iff_eq] at h0; omega
 have hD : D[i]? = some D[i] := List.getElem?_eq_getElem hlD
 rw [hi, hD] at h1
 simp only [Bool.and_eq_true] at h1
 obtain ⟨⟨⟨⟨⟨h2, h3⟩, h4⟩, h4b⟩, h5⟩, h6⟩ := h1
 have any_spec : ∀ j, (o.after.any fun e => Region.binds .any e && e.on == j) = true → ∃ e ∈ o.after, Region.binds .any e = true ∧ e.on = j := fun j hj => by
  obtain ⟨k, hk, hk2⟩ := Array.any_eq_true.1 hj
  simp only [Bool.and_eq_true, beq_iff_eq] at hk2
  exact ⟨o.after[k], Array.getElem_mem hk, hk2.1, hk2.2⟩
 have mem_of : ∀ (X : List (Nat × Nat)) (t j : Nat), X.any (fun tj => tj.1 == t && tj.2 == j) = true → (t, j) ∈ X := fun X t j hx => by
  obtain ⟨tj, htj, e⟩ := List.any_eq_true.1 hx
  simp only [Bool.and_eq_true, beq_iff_eq] at e
  obtain ⟨a, b⟩ := tj
  simp only at e
  obtain ⟨rfl, rfl⟩ := e
  exact htj
 have each : ∀ j p, l[j]? = some p → ((!Ts.contains i || !(decide (j ∈ m) || (decide (j < i) && Ts.contains j)) || (closeB l 9 [i]).contains j) = true) ∧ ∀ t, p.dst = some t →
   ((!((o.looksAt l.toArray).contains t) || D[i].any (fun tj => tj.1 == t && tj.2 == j)) = true ∧ (i == j || o.dst != some t) = true ∧ (Ts.contains j || E.any (fun tj => tj.1 == t && tj.2 == j)) = true) := fun j p hj => by
  have hx := (List.all_eq_true.1 h6) j (List.mem_range.2 (List.getElem?_eq_some_iff.1 hj).1)
  simp only [hj, Bool.and_eq_true] at hx
  refine ⟨hx.1, fun t ht => ?_⟩
  have := hx.2
  simp only [ht, Bool.and_eq_true] at this
  exact ⟨this.1.1, this.1.2, this.2⟩
 refine ⟨⟨D[i], hD, fun cs b e => by rw [e] at h2; simp at h2, fun e he hb => ?_, fun hm => ?_, fun hm e => ?_, fun tj htj => ?_, fun j p t hj ht hm => ?_, fun hT j p hj hc => ?_, fun j p t hj ht hne hd => ?_⟩, fun t ht hn => ?_⟩
 ·have := (Array.all_eq_true_iff_forall_mem.1 h3) e he
  simpa [hb] using this
 ·rw [hm] at h4; simpa using h4
 ·rw [hm, e] at h4b; simp at h4b
 ·have := (List.all_eq_true.1 h5) tj htj
  simp only [Bool.and_eq_true, Bool.or_eq_true, Bool.not_eq_true'] at this
  refine ⟨any_spec _ this.1.1, dst_of _ _ this.1.2, fun hm => ?_⟩
  rcases this.2 with h9 | h9
  ·rw [hm] at h9; cases h9
  ·exact h9
 ·have := ((each j p hj).2 t ht).1
  simp only [Bool.or_eq_true, Bool.not_eq_true'] at this
  rcases this with h9 | h9
  ·have : (o.looksAt l.toArray).contains t = true := by simpa using hm
   rw [this] at h9; cases h9
  ·exact mem_of _ _ _ h9
 ·have := (each j p hj).1
  simp only [Bool.or_eq_true, Bool.not_eq_true', hT] at this
  rcases this with (h9 | h9) | h9
  ·cases h9
  ·simp only [Bool.or_eq_false_iff, Bool.and_eq_false_iff, decide_eq_false_iff_not] at h9
   rcases hc with hc | ⟨hc1, hc2⟩
   ·exact absurd hc h9.1
   ·rcases h9.2 with h8 | h8
    ·exact absurd hc1 h8
    ·rw [hc2] at h8; cases h8
  ·simpa using h9
 ·have := ((each j p hj).2 t ht).2.1
  simp only [Bool.or_eq_true] at this
  rcases this with h9 | h9
  ·exact hne (by simpa using h9)
  ·rw [hd] at h9; simp at h9
 ·have := ((each i o hi).2 t ht).2.2
  rw [hn] at this
  simp only [Bool.false_or] at this
  exact mem_of _ _ _ this
def PureAtU (P : Program) (ops : Array Oper) (S : World → Prop) (R : Nat → Value → World → Prop) (a0 : Act) (o : Oper) (ds : List (Nat × Nat)) (i : Nat) (u : Value) : Prop :=
 (∀ v w, R i v w ↔ v = u) ∧ DepP R ds a0 fun a => ∀ (w : World) (K : Act → World → Prop), S w → K (a.put o.dst u) w → if Region.wanted o (yielded ops a.tmps) = true then Oper.wp P o a w K (fun _ _ _ => False) else K (a.put o.dst undef) w
/-- The writing operations in the order of the text; every world on the way is in S. -/
def TailU (P : Program) (ops : Array Oper) (S : World → Prop) (Q : Exit → Act → World → Prop) : List (Nat × Oper) → Act → World → Prop
 | [], a, w => S w ∧ Q .normal a w
 | (_, o) :: l, a, w => S w ∧ ∀ K : Act → World → Prop, (∀ v w', TailU P ops S Q l (a.put o.dst v) w' → K (a.put o.dst v) w') → if Region.wanted o (yielded ops a.tmps) = true then Oper.wp P o a w K (fun _ _ _ => False) else K (a.put o.dst undef) w
theorem TailU.at {ops : Array Oper} : ∀ {l : List (Nat × Oper)} {a : Act} {w : World}, TailU P ops S Q l a w → S w
 | [], _, _, h => h.1
 | _ :: _, _, _, h => h.1
def FlowU (P : Program) (ops : Array Oper) (S : World → Prop) (W : World) (R : Nat → Value → World → Prop) (a0 : Act) (m : List Nat) (Ts : List Nat) : List Oper → List (List (Nat × Nat)) → Nat → Prop
 | [], _, _ => True
 | o :: l, ds :: D, i => (if i ∈ m then MemAtT P ops W R a0 o ds i else Ts.contains i = false → ∃ u, PureAtU P ops S R a0 o ds i u) ∧ FlowU P ops S W R a0 m Ts l D (i + 1)
 | _ :: _, [], _ => False
theorem FlowU.mem {ops : Array Oper} {W : World} {a0 : Act} {m : List Nat} {Ts : List Nat} {o : Oper} {l : List Oper} {ds : List (Nat × Nat)} {D : List (List (Nat × Nat))} {i : Nat} (hi : i ∈ m) (h1 : MemAtT P ops W R a0 o ds i) (h2 : FlowU P ops S W R a0 m Ts l D (i + 1)) : FlowU P ops S W R a0 m Ts (o :: l) (ds :: D) i := ⟨by rw [if_pos hi]; exact h1, h2⟩
theorem FlowU.val {ops : Array Oper} {W : World} {a0 : Act} {m : List Nat} {Ts : List Nat} {o : Oper} {l : List Oper} {ds : List (Nat × Nat)} {D : List (List (Nat × Nat))} {i : Nat} (hi : ¬ i ∈ m) (u : Value) (hR : ∀ v w, R i v w ↔ v = u)
  (h1 : DepP R ds a0 fun a => ∀ (w : World) (K : Act → World → Prop), S w → K (a.put o.dst u) w → if Region.wanted o (yielded ops a.tmps) = true then Oper.wp P o a w K (fun _ _ _ => False) else K (a.put o.dst undef) w) (h2 : FlowU P ops S W R a0 m Ts l D (i + 1)) : FlowU P ops S W R a0 m Ts (o :: l) (ds :: D) i := ⟨by rw [if_neg hi]; exact fun _ => ⟨u, hR, h1⟩, h2⟩
theorem FlowU.store {ops : Array Oper} {W : World} {a0 : Act} {m : List Nat} {Ts : List Nat} {o : Oper} {l : List Oper} {ds : List (Nat × Nat)} {D : List (List (Nat × Nat))} {i : Nat} (hi : ¬ i ∈ m) (hd : Ts.contains i = true) (h2 : FlowU P ops S W R a0 m Ts l D (i + 1)) : FlowU P ops S W R a0 m Ts (o :: l) (ds :: D) i := ⟨(by rw [if_neg hi]; exact fun h => (by rw [hd] at h; cases h)), h2⟩
theorem FlowU.nil {ops : Array Oper} {W : World} {a0 : Act} {m : List Nat} {Ts : List Nat} {D : List (List (Nat × Nat))} {i : Nat} : FlowU P ops S W R a0 m Ts [] D i := trivial
theorem flowU_get {ops : Array Oper} {W : World} {a0 : Act} {m : List Nat} {Ts : List Nat} : ∀ (l : List Oper) (D : List (List (Nat × Nat))) (n : Nat), FlowU P ops S W R a0 m Ts l D n → ∀ i o ds, l[i]? = some o → D[i]? = some ds →
  (if n + i ∈ m then MemAtT P ops W R a0 o ds (n + i) else Ts.contains (n + i) = false → ∃ u, PureAtU P ops S R a0 o ds (n + i) u)
 | [], _, _, _, i, o, ds, hi, _ => by simp at hi
 | o :: l, [], _, h, _, _, _, _, hd => by simp at hd
 | o :: l, d :: D, n, h, i, o', ds, hi, hd => by
  cases i with
  | zero =>
   simp at hi hd
   subst hi; subst hd
   exact h.1
  | succ i =>
   have := flowU_get l D (n + 1) h.2 i o' ds (by simpa using hi) (by simpa using hd)
   rw [show n + (i + 1) = n + 1 + i by omega]
   exact this
/-- The stores. -/
theorem flowU_any {l : List Oper} {D : List (List (Nat × Nat))} {E : List (Nat × Nat)} {m : List Nat} {Ts : List Nat} {W : World} {a0 : Act} (hok : flowTOk l D E m Ts = true) (hF : FlowU P l.toArray S W R a0 m Ts l D 0)
  (hSW : ∀ w, Below W.heap.size W w → S w) (hT : ∀ w, Below W.heap.size W w → Dep R w E a0 fun a => TailU P l.toArray S Q (tailOf Ts l 0) a w) {u : Nat → Value}
  (hu : ∀ i o ds, l[i]? = some o → D[i]? = some ds → ¬ i ∈ m → Ts.contains i = false → PureAtU P l.toArray S R a0 o ds i (u i)) :
  ∀ (fuel : Nat) (rs : List Nat) (listed : Array Bool) (val : Nat → Value) (a : Act) (w : World) (rest : List (Nat × Oper)), rs.length ≤ fuel → (∀ i, i < l.length → listed.getD i true = false → i ∈ rs) → listed.size = l.length → (∀ k j, k < l.length → listed.getD k true = true → edgeB l k j = true → listed.getD j true = true) →
   Agr l val a0 (fun i => listed.getD i true = true) a → (∀ i o, l[i]? = some o → Ts.contains i = false → listed.getD i true = true → ∃ w1, R i (val i) w1) →
   (rest.Pairwise fun a b => a.1 < b.1) → (∀ i o, (i, o) ∈ rest ↔ (l[i]? = some o ∧ Ts.contains i = true ∧ listed.getD i true = false)) →
   ((rest = tailOf Ts l 0 ∧ (∀ i o, l[i]? = some o → Ts.contains i = true → listed.getD i true = false) ∧ (∀ i o, l[i]? = some o → Ts.contains i = false → listed.getD i true = true → Since R i (val i) w) ∧ Below W.heap.size W w) ∨
    ((∀ i, i ∈ m → i < l.length → listed.getD i true = true) ∧ ∃ C : Act, TailU P l.toArray S Q rest C w ∧ C.defers = a0.defers ∧ C.tmps.size = a0.tmps.size ∧
     (∀ t, (∀ j p, l[j]? = some p → p.dst = some t → listed.getD j true = true) → a.tmps[t]? = C.tmps[t]?) ∧
     (∀ i o t, l[i]? = some o → ¬ i ∈ m → Ts.contains i = false → o.dst = some t → C.tmps[t]? = if t < a0.tmps.size then some (u i) else none))) → wpAny P .any l.toArray Q fuel listed a w := by
 obtain ⟨hspec, hE⟩ := flowTOk_spec hok
 have hdist : ∀ (i : Nat) (o : Oper), l[i]? = some o → ∀ (j : Nat) (p : Oper) (t : Nat), l[j]? = some p → p.dst = some t → i ≠ j → o.dst ≠ some t := fun i o hi => by
  obtain ⟨⟨ds, _, hs⟩, _⟩ := hspec i o hi
  exact hs.one
 have huniqE : ∀ t j k, (t, j) ∈ E → (t, k) ∈ E → k = j := fun t j k h1 h2 => by
  obtain ⟨⟨p, hp, hpt⟩, _⟩ := hE _ h1
  obtain ⟨⟨q, hq, hqt⟩, _⟩ := hE _ h2
  refine Classical.byContradiction fun hne => ?_
  exact hdist k q hq j p t hp hpt hne hqt
 -- from the first phase to the second
 have enter : ∀ (listed : Array Bool) (val : Nat → Value) (a : Act) (w : World), Agr l val a0 (fun i => listed.getD i true = true) a → (∀ i o, l[i]? = some o → Ts.contains i = true → listed.getD i true = false) → (∀ i o, l[i]? = some o → Ts.contains i = false → listed.getD i true = true → Since R i (val i) w) → Below W.heap.size W w → (∀ i, i ∈ m → i < l.length → listed.getD i true = true) →
   ∃ C : Act, TailU P l.toArray S Q (tailOf Ts l 0) C w ∧ C.defers = a0.defers ∧ C.tmps.size = a0.tmps.size ∧
     (∀ t, (∀ j p, l[j]? = some p → p.dst = some t → listed.getD j true = true) → a.tmps[t]? = C.tmps[t]?) ∧
     (∀ i o t, l[i]? = some o → ¬ i ∈ m → Ts.contains i = false → o.dst = some t → C.tmps[t]? = if t < a0.tmps.size then some (u i) else none) := by
  intro listed val a w hag hTl hS hB hall
  have notT : ∀ i, i ∈ m → i < l.length → Ts.contains i = false := fun i hm hi => by
   refine Bool.eq_false_iff.2 fun hc => ?_
   obtain ⟨⟨ds, _, hs⟩, _⟩ := hspec i l[i] (List.getElem?_eq_getElem hi)
   exact hs.late hc hm
  refine ⟨putAll (fun j => if j ∈ m then val j else u j) E a0, ?_, putAll_defers _ E a0, putAll_size _ E a0, fun t ht => ?_, fun i o t hi hm hn ht => ?_⟩
  ·refine dep_at _ E a0 _ (fun tj htj => ?_) (hT w hB)
   obtain ⟨⟨p, hp, hpt⟩, hn⟩ := hE tj htj
   by_cases hm : tj.2 ∈ m
   ·simp only [if_pos hm]
    exact hS _ p hp hn (hall _ hm (List.getElem?_eq_some_iff.1 hp).1)
   ·simp only [if_neg hm]
    obtain ⟨⟨ds, hds, _⟩, _⟩ := hspec _ p hp
    exact ⟨w, ((hu _ p ds hp hds (by omega) hn).1 _ _).2 rfl, Below.refl _ _⟩
  ·by_cases he : ∃ (j : Nat) (p : Oper), l[j]? = some p ∧ p.dst = some t
   ·obtain ⟨j, p, hj, hp⟩ := he
    have hl := ht j p hj hp
    have hn : Ts.contains j = false := Bool.eq_false_iff.2 fun hc => by rw [hTl j p hj hc] at hl; cases hl
    have hmem := (hspec j p hj).2 t hp hn
    rw [hag.there j p t hj hp hl, putAll_there _ t j E a0 hmem (fun k hk => huniqE t j k hmem hk)]
    by_cases hm : j ∈ m
    ·simp only [if_pos hm]
    ·simp only [if_neg hm]
     obtain ⟨w1, h1, _⟩ := hS j p hj hn hl
     obtain ⟨⟨ds, hds, _⟩, _⟩ := hspec j p hj
     rw [((hu j p ds hj hds (by omega) hn).1 _ _).1 h1]
   ·rw [putAll_free _ t E a0 (fun tj htj e => by
     obtain ⟨⟨p, hp, hpt⟩, _⟩ := hE tj htj
     exact he ⟨tj.2, p, hp, by rw [hpt, e]⟩)]
    exact hag.free t fun j p hj hL e => he ⟨j, p, hj, e⟩
  ·have hmem := (hspec i o hi).2 t ht hn
   rw [putAll_there _ t i E a0 hmem (fun k hk => huniqE t i k hmem hk)]
   simp only [if_neg (show ¬ i ∈ m by omega)]
 have key : ∀ (listed : Array Bool) (a : Act) (w : World) (val : Nat → Value) (rest : List (Nat × Oper)), (∀ i, i < l.length → listed.getD i true = true) →
   Agr l val a0 (fun i => listed.getD i true = true) a → (∀ i o, (i, o) ∈ rest ↔ (l[i]? = some o ∧ Ts.contains i = true ∧ listed.getD i true = false)) →
   ((rest = tailOf Ts l 0 ∧ (∀ i o, l[i]? = some o → Ts.contains i = true → listed.getD i true = false) ∧ (∀ i o, l[i]? = some o → Ts.contains i = false → listed.getD i true = true → Since R i (val i) w) ∧ Below W.heap.size W w) ∨
    ((∀ i, i ∈ m → i < l.length → listed.getD i true = true) ∧ ∃ C : Act, TailU P l.toArray S Q rest C w ∧ C.defers = a0.defers ∧ C.tmps.size = a0.tmps.size ∧
     (∀ t, (∀ j p, l[j]? = some p → p.dst = some t → listed.getD j true = true) → a.tmps[t]? = C.tmps[t]?) ∧
     (∀ i o t, l[i]? = some o → ¬ i ∈ m → Ts.contains i = false → o.dst = some t → C.tmps[t]? = if t < a0.tmps.size then some (u i) else none))) → Q .normal a w := by
  intro listed a w val rest hall hag hrest hph
  have hnil : rest = [] := by
   refine List.eq_nil_iff_forall_not_mem.2 fun x hx => ?_
   obtain ⟨i, o⟩ := x
   obtain ⟨h1, h2, h3⟩ := (hrest i o).1 hx
   have := hall i (List.getElem?_eq_some_iff.1 h1).1
   rw [h3] at this
   cases this
  have h2 : ∃ C : Act, TailU P l.toArray S Q rest C w ∧ C.defers = a0.defers ∧ C.tmps.size = a0.tmps.size ∧ (∀ t, (∀ j p, l[j]? = some p → p.dst = some t → listed.getD j true = true) → a.tmps[t]? = C.tmps[t]?) := by
   rcases hph with ⟨h1, h1b, h2, h3⟩ | ⟨_, C, c1, c2, c3, c4, _⟩
   ·obtain ⟨C, c1, c2, c3, c4, _⟩ := enter listed val a w hag h1b h2 h3 (fun i _ hi => hall i hi)
    exact ⟨C, by rw [h1]; exact c1, c2, c3, c4⟩
   ·exact ⟨C, c1, c2, c3, c4⟩
  obtain ⟨C, c1, c2, c3, c4⟩ := h2
  rw [hnil] at c1
  have : a = C := act_ext (hag.defers.trans c2.symm) fun t => c4 t fun j p hj _ => hall j (List.getElem?_eq_some_iff.1 hj).1
  rw [this]
  exact c1.2
 intro fuel
 induction fuel with
 | zero =>
  intro rs listed val a w rest hlen hrs hsz hdc hag hv hpw hrest hph
  have hall : ∀ i, i < l.length → listed.getD i true = true := fun i hi => by
   refine Classical.byContradiction fun hne => ?_
   have hin := hrs i hi (by simpa using hne)
   have h0 : rs = [] := List.length_eq_zero_iff.1 (by omega)
   rw [h0] at hin
   cases hin
  refine ⟨?_, key listed a w val rest hall hag hrest hph⟩
  cases hr : Region.ready .any l.toArray listed with
  | nil => rfl
  | cons x xs =>
   have hx : x ∈ Region.ready .any l.toArray listed := by rw [hr]; exact List.mem_cons_self ..
   obtain ⟨h0, o, ho, _⟩ := mem_ready.1 hx
   have := hall x (by simpa using (Array.getElem?_eq_some_iff.1 ho).1)
   rw [h0] at this
   cases this
 | succ fuel ih =>
  intro rs listed val a w rest hlen hrs hsz hdc hag hv hpw hrest hph
  have unr : Region.ready .any l.toArray listed = [] → ∀ n i, i ≤ n → i < l.length → listed.getD i true = true := by
   intro hr n
   induction n with
   | zero =>
    intro i hin hi
    obtain rfl : i = 0 := by omega
    refine Classical.byContradiction fun hne => ?_
    have ho : l[0]? = some l[0] := List.getElem?_eq_getElem hi
    obtain ⟨⟨ds, _, hs⟩, _⟩ := hspec 0 _ ho
    have : 0 ∈ Region.ready .any l.toArray listed := mem_ready.2 ⟨by simpa using hne, l[0], by simpa using ho, fun e he hb => by
     have := hs.back e he hb
     omega⟩
    rw [hr] at this
    cases this
   | succ n ihn =>
    intro i hin hi
    by_cases hlt : i ≤ n
    ·exact ihn i hlt hi
    refine Classical.byContradiction fun hne => ?_
    have ho : l[i]? = some l[i] := List.getElem?_eq_getElem hi
    obtain ⟨⟨ds, _, hs⟩, _⟩ := hspec i _ ho
    have : i ∈ Region.ready .any l.toArray listed := mem_ready.2 ⟨by simpa using hne, l[i], by simpa using ho, fun e he hb => by
     have h1 := hs.back e he hb
     have h2 := ihn e.on (by omega) (by omega)
     have h3 : e.on < listed.size := by omega
     simpa [h3] using h2⟩
    rw [hr] at this
    cases this
  refine ⟨fun hr => key listed a w val rest (fun i hi => unr hr i i (Nat.le_refl _) hi) hag hrest hph, fun i hi => ?_⟩
  obtain ⟨h0, o, ho, hall⟩ := mem_ready.1 hi
  have hlt : i < l.length := by simpa using (Array.getElem?_eq_some_iff.1 ho).1
  have ho' : l[i]? = some o := by simpa using ho
  obtain ⟨⟨ds, hds, spec⟩, hmemE⟩ := hspec i o ho'
  have hget := flowU_get l D 0 hF i o ds ho' hds
  rw [Nat.zero_add] at hget
  have hon : ∀ j, (∃ e ∈ o.after, Region.binds .any e = true ∧ e.on = j) → listed.getD j true = true := fun j ⟨e, he, hb, hj⟩ => by
   subst hj
   have h2 := hall e he hb
   have h1 := spec.back e he hb
   have h3 : e.on < listed.size := by omega
   simpa [h3] using h2
  have huniq : ∀ t j k, (t, j) ∈ ds → (t, k) ∈ ds → k = j := fun t j k h1 h2 => by
   obtain ⟨_, ⟨p, hp, hpt⟩, _⟩ := spec.dep _ h1
   obtain ⟨_, ⟨q, hq, hqt⟩, _⟩ := spec.dep _ h2
   refine Classical.byContradiction fun hne => ?_
   exact hdist k q hq j p t hp hpt hne hqt
  have hmem := hrs i hlt h0
  have hlen' : (rs.erase i).length ≤ fuel := by have := List.length_erase_of_mem hmem; have := List.length_pos_of_mem hmem; omega
  have hrs' : ∀ j, j < l.length → (listed.setIfInBounds i true).getD j true = false → j ∈ rs.erase i := fun j hj hjl => by
   by_cases hij : i = j
   ·subst hij
    have : i < listed.size := by omega
    simp [this] at hjl
   ·rw [getD_set_ne true hij] at hjl
    exact (List.mem_erase_of_ne (Ne.symm hij)).2 (hrs j hj hjl)
  have heq : ∀ j, (listed.setIfInBounds i true).getD j true = true ↔ (listed.getD j true = true ∨ j = i) := fun j => by
   by_cases hij : i = j
   ·subst hij
    have : i < listed.size := by omega
    simp [this]
   ·rw [getD_set_ne true hij]; simp [Ne.symm hij]
  have hei : ∀ j, edgeB l i j = true → listed.getD j true = true := fun j he => by
   unfold edgeB at he
   rw [ho'] at he
   obtain ⟨k, hk, hk2⟩ := Array.any_eq_true.1 he
   simp only [Bool.and_eq_true, beq_iff_eq] at hk2
   exact hon j ⟨o.after[k], Array.getElem_mem hk, hk2.1, hk2.2⟩
  have hdc' : ∀ k j, k < l.length → (listed.setIfInBounds i true).getD k true = true → edgeB l k j = true → (listed.setIfInBounds i true).getD j true = true := fun k j hk hkl he => (heq j).2 (.inl (by
   rcases (heq k).1 hkl with h1 | rfl
   ·exact hdc k j hk h1 he
   ·exact hei j he))
  have hcl : ∀ j, j ≠ i → j ∈ closeB l 9 [i] → listed.getD j true = true := fun j hj hm => by
   have := closeB_listed (l := l) (i := i) (G := fun j => listed.getD j true = true) hei (fun k hk j he => by
    by_cases hkl : k < l.length
    ·exact hdc k j hkl hk he
    ·unfold edgeB at he
     rw [List.getElem?_eq_none (by omega)] at he
     cases he) 9 [i] (fun k hk => .inl (by simpa using hk)) j hm
   exact this.resolve_left hj
  have hag' : ∀ v, Agr l (fun j => if j = i then v else val j) a0 (fun j => (listed.setIfInBounds i true).getD j true = true) (a.put o.dst v) := fun v => by
   have hag2 : Agr l (fun j => if j = i then v else val j) a0 (fun i => listed.getD i true = true) a := hag.congr fun j hj => by
    by_cases e : j = i
    ·subst e; rw [h0] at hj; cases hj
    ·simp only [if_neg e]
   have := hag2.put ho' (fun j p t hj hp hne => spec.one j p t hj hp hne)
   simp only [if_pos] at this
   have el : (fun j => listed.getD j true = true ∨ j = i) = (fun j => (listed.setIfInBounds i true).getD j true = true) := funext fun j => propext (heq j).symm
   rw [el] at this
   exact this
  have hv' : ∀ v, (Ts.contains i = false → ∃ w1, R i v w1) → ∀ j p, l[j]? = some p → Ts.contains j = false → (listed.setIfInBounds i true).getD j true = true → ∃ w1, R j (if j = i then v else val j) w1 := fun v hvi j p hj hd hl => by
   by_cases hij : j = i
   ·rw [if_pos hij, hij]; exact hvi (by rw [← hij]; exact hd)
   ·rw [if_neg hij]
    rcases (heq j).1 hl with hl | hl
    ·exact hv j p hj hd hl
    ·exact absurd hl hij
  have hwn : ∀ b : Act, (∀ t, t ∈ o.looksAt l.toArray → a.tmps[t]? = b.tmps[t]?) → Region.wanted o (yielded l.toArray a.tmps) = Region.wanted o (yielded l.toArray b.tmps) := fun b hlook => by
   unfold Region.wanted
   cases hg : o.guard with
   | none => rfl
   | some gw =>
    obtain ⟨g, want⟩ := gw
    simp only []
    have : yielded l.toArray a.tmps g = yielded l.toArray b.tmps g := by
     unfold yielded
     cases ht : (l.toArray[g]?).bind (·.dst) with
     | none => rfl
     | some t => simp only [Option.bind_some, hlook t (by simp only [Oper.looksAt, hg, ht, List.mem_append]; right; simp)]
    rw [this]
  have hevl : ∀ b : Act, (∀ t, t ∈ o.looksAt l.toArray → a.tmps[t]? = b.tmps[t]?) → ∀ x ∈ o.op.operands, a.eval x = b.eval x := fun b hlook x hx => by
   cases x with
   | tmp t =>
    have := hlook t (List.mem_append_left _ (List.mem_filterMap.2 ⟨.tmp t, by simpa using hx, rfl⟩))
    simp only [Act.eval, Array.getD_eq_getD_getElem?, this]
   | _ => rfl
  by_cases hTi : Ts.contains i = true
  ·-- of the tail
   have hmi := spec.late hTi
   have hM : ∀ j, j ∈ m → j < l.length → listed.getD j true = true := fun j hj hjl => hcl j (fun e => hmi (e ▸ hj)) (spec.tail hTi j l[j] (List.getElem?_eq_getElem hjl) (.inl hj))
   have h2 : ∃ C : Act, TailU P l.toArray S Q rest C w ∧ C.defers = a0.defers ∧ C.tmps.size = a0.tmps.size ∧
     (∀ t, (∀ j p, l[j]? = some p → p.dst = some t → listed.getD j true = true) → a.tmps[t]? = C.tmps[t]?) ∧
     (∀ i o t, l[i]? = some o → ¬ i ∈ m → Ts.contains i = false → o.dst = some t → C.tmps[t]? = if t < a0.tmps.size then some (u i) else none) := by
    rcases hph with ⟨h1, h1b, h2, h3⟩ | ⟨_, h2⟩
    ·rw [h1]; exact enter listed val a w hag h1b h2 h3 hM
    ·exact h2
   obtain ⟨C, c1, c2, c3, c4, c5⟩ := h2
   have hin : (i, o) ∈ rest := (hrest i o).2 ⟨ho', hTi, h0⟩
   cases hrs0 : rest with
   | nil => rw [hrs0] at hin; cases hin
   | cons x rest' =>
    obtain ⟨j, p⟩ := x
    rw [hrs0] at c1 hin hpw hrest
    have hx : (j, p) = (i, o) := by
     rcases List.mem_cons.1 hin with e | e
     ·exact e.symm
     ·exfalso
      have hji : j < i := (List.pairwise_cons.1 hpw).1 (i, o) e
      obtain ⟨hj1, hj2, hj3⟩ := (hrest j p).1 (List.mem_cons_self ..)
      have := hcl j (by omega) (spec.tail hTi j p hj1 (.inr ⟨hji, hj2⟩))
      rw [hj3] at this
      cases this
    cases hx
    have hlook : ∀ t, t ∈ o.looksAt l.toArray → a.tmps[t]? = C.tmps[t]? := fun t ht => c4 t fun j p hj hp => hon j (spec.dep _ (spec.looks j p t hj hp ht)).1
    refine relatedAt (G := fun v w' => TailU P l.toArray S Q rest' (C.put o.dst v) w') c1.2 (hag.defers.trans c2.symm) (hag.size.trans c3.symm) (execOp_congr o spec.sel (hevl C hlook)) (hwn C hlook) ho fun v w' hw' => ?_
    refine ih (rs.erase i) _ (fun j => if j = i then v else val j) _ w' rest' hlen' hrs' (by simpa using hsz) hdc' (hag' v) (hv' v (fun h => by rw [hTi] at h; cases h)) (List.pairwise_cons.1 hpw).2 (fun j p => ?_) (.inr ⟨fun j hj hjl => (heq j).2 (.inl (hM j hj hjl)), C.put o.dst v, hw', ?_, ?_, fun t ht => ?_, fun k q t hk hmk hn hq => ?_⟩)
    ·have hne : ∀ q, (i, q) ∉ rest' := fun q hq => Nat.lt_irrefl i ((List.pairwise_cons.1 hpw).1 (i, q) hq)
     constructor
     ·intro hjp
      obtain ⟨k1, k2, k3⟩ := (hrest j p).1 (List.mem_cons_of_mem _ hjp)
      refine ⟨k1, k2, ?_⟩
      rw [getD_set_ne true (fun e => hne p (by subst e; exact hjp))]
      exact k3
     ·rintro ⟨k1, k2, k3⟩
      have hij : i ≠ j := fun e => by
       subst e
       have : i < listed.size := by omega
       simp [this] at k3
      rw [getD_set_ne true hij] at k3
      rcases List.mem_cons.1 ((hrest j p).2 ⟨k1, k2, k3⟩) with e | e
      ·cases e; exact absurd rfl hij
      ·exact e
    ·exact (show (C.put o.dst v).defers = C.defers by cases o.dst <;> rfl).trans c2
    ·have : (C.put o.dst v).tmps.size = C.tmps.size := by cases o.dst <;> simp [Act.put]
     rw [this]; exact c3
    ·cases hd : o.dst with
     | none =>
      show a.tmps[t]? = C.tmps[t]?
      refine c4 t fun j p hj hp => ?_
      rcases (heq j).1 (ht j p hj hp) with h9 | rfl
      ·exact h9
      ·rw [ho'] at hj; cases hj; rw [hd] at hp; cases hp
     | some d =>
      rw [put_at, put_at]
      by_cases hdt : d = t
      ·rw [if_pos hdt, if_pos hdt, hag.size, c3]
      ·rw [if_neg hdt, if_neg hdt]
       refine c4 t fun j p hj hp => ?_
       rcases (heq j).1 (ht j p hj hp) with h9 | rfl
       ·exact h9
       ·rw [ho'] at hj; cases hj; rw [hd] at hp; cases hp; exact absurd rfl hdt
    ·have hne : o.dst ≠ some t := spec.one k q t hk hq (fun e => by subst e; rw [hTi] at hn; cases hn)
     cases hd : o.dst with
     | none => exact c5 k q t hk hmk hn hq
     | some d =>
      rw [put_at, if_neg (fun e => hne (by rw [hd, e]))]
      exact c5 k q t hk hmk hn hq
  ·have hTf : Ts.contains i = false := by simpa using hTi
   have hdst := spec.hasD hTf
   have hlook : ∀ t, t ∈ o.looksAt l.toArray → a.tmps[t]? = (putAll val ds a0).tmps[t]? := fun t htl => by
    by_cases he : ∃ j, (t, j) ∈ ds
    ·obtain ⟨j, htj⟩ := he
     obtain ⟨h1, ⟨p, hp, hpt⟩, _⟩ := spec.dep _ htj
     rw [hag.there j p t hp hpt (hon _ h1), putAll_there val t j ds a0 htj (fun k hk => huniq t j k htj hk)]
    ·rw [putAll_free val t ds a0 (fun tj htj e => he ⟨tj.2, by rw [← e]; exact htj⟩)]
     exact hag.free t fun j p hj hL e => he ⟨j, spec.looks j p t hj e htl⟩
   have hdef : a.defers = (putAll val ds a0).defers := hag.defers.trans (putAll_defers val ds a0).symm
   have hsiz : a.tmps.size = (putAll val ds a0).tmps.size := hag.size.trans (putAll_size val ds a0).symm
   have hrest' : ∀ j p, (j, p) ∈ rest ↔ (l[j]? = some p ∧ Ts.contains j = true ∧ (listed.setIfInBounds i true).getD j true = false) := fun j p => by
    rw [hrest j p]
    by_cases hij : i = j
    ·subst hij
     have : i < listed.size := by omega
     constructor
     ·rintro ⟨k1, k2, k3⟩
      exact absurd k2 hTi
     ·rintro ⟨k1, k2, k3⟩
      simp [this] at k3
    ·rw [getD_set_ne true hij]
   by_cases hm : i ∈ m
   ·-- of the first phase
    rw [if_pos hm] at hget
    rcases hph with ⟨hr, hr2, hS, hB⟩ | ⟨hM, _⟩
    rotate_left
    ·have := hM i hm hlt
     rw [h0] at this
     cases this
    have hds2 : ∀ tj ∈ ds, Since R tj.2 (val tj.2) w := fun tj htj => by
     obtain ⟨h1, ⟨p, hp, hpt⟩, hn⟩ := spec.dep tj htj
     exact hS tj.2 p hp (hn hTf) (hon _ h1)
    have h1 := dep_at val ds a0 _ hds2 (hget w hB)
    refine relatedAt (G := fun v w' => R i v w' ∧ Below w.heap.size w w') (fun K hK => h1 K (fun v w' hv hb => hK v w' ⟨hv, hb⟩)) hdef hsiz (execOp_congr o spec.sel (hevl _ hlook)) (hwn _ hlook) ho fun v w' ⟨hv1, hb⟩ => ?_
    refine ih (rs.erase i) _ (fun j => if j = i then v else val j) _ w' rest hlen' hrs' (by simpa using hsz) hdc' (hag' v) (hv' v (fun _ => ⟨w', hv1⟩)) hpw hrest' (.inl ⟨hr, fun j p hj hc => ?_, fun j p hj hd hl => ?_, below_next hB hb⟩)
    ·rw [getD_set_ne true (fun e => by subst e; exact hTi hc)]; exact hr2 j p hj hc
    by_cases hij : j = i
    ·simp only [if_pos hij]; rw [hij]; exact ⟨w', hv1, Below.refl _ _⟩
    ·simp only [if_neg hij]
     rcases (heq j).1 hl with hl | hl
     ·obtain ⟨w1, k1, k2⟩ := hS j p hj hd hl
      exact ⟨w1, k1, below_next k2 hb⟩
     ·exact absurd hl hij
   ·-- a pure operation
    rw [if_neg hm] at hget
    have hpu := hu i o ds ho' hds (by omega) hTf
    have hds2 : ∀ tj ∈ ds, ∃ w1, R tj.2 (val tj.2) w1 := fun tj htj => by
     obtain ⟨h1, ⟨p, hp, hpt⟩, hn⟩ := spec.dep tj htj
     exact hv tj.2 p hp (hn hTf) (hon _ h1)
    have h1 := depP_at val ds a0 _ hds2 hpu.2
    have hSw : S w := by
     rcases hph with ⟨_, _, _, hB⟩ | ⟨_, C, c1, _⟩
     ·exact hSW w hB
     ·exact c1.at
    refine relatedAt (G := fun v w' => v = u i ∧ w' = w) (fun K hK => h1 w K hSw (hK _ _ ⟨rfl, rfl⟩)) hdef hsiz (execOp_congr o spec.sel (hevl _ hlook)) (hwn _ hlook) ho fun v w' hvw => ?_
    obtain ⟨rfl, rfl⟩ := hvw
    have hRi : ∀ w, R i (u i) w := fun w => (hpu.1 _ _).2 rfl
    refine ih (rs.erase i) _ (fun j => if j = i then u i else val j) _ w' rest hlen' hrs' (by simpa using hsz) hdc' (hag' _) (hv' _ (fun _ => ⟨w', hRi w'⟩)) hpw hrest' ?_
    rcases hph with ⟨hr, hr2, hS, hB⟩ | ⟨hM, C, c1, c2, c3, c4, c5⟩
    ·refine .inl ⟨hr, fun j p hj hc => ?_, fun j p hj hd hl => ?_, hB⟩
     ·rw [getD_set_ne true (fun e => by subst e; exact hTi hc)]; exact hr2 j p hj hc
     by_cases hij : j = i
     ·simp only [if_pos hij]; rw [hij]; exact ⟨w', hRi w', Below.refl _ _⟩
     ·simp only [if_neg hij]
      rcases (heq j).1 hl with hl | hl
      ·exact hS j p hj hd hl
      ·exact absurd hl hij
    ·refine .inr ⟨fun j hj hjl => (heq j).2 (.inl (hM j hj hjl)), C, c1, c2, c3, fun t ht => ?_, c5⟩
     cases hd : o.dst with
     | none => exact absurd hd hdst
     | some d =>
      rw [put_at]
      by_cases hdt : d = t
      ·subst hdt
       rw [if_pos rfl, hag.size, c5 i o d ho' (by omega) hTf hd]
      ·rw [if_neg hdt]
       refine c4 t fun j p hj hp => ?_
       rcases (heq j).1 (ht j p hj hp) with h9 | rfl
       ·exact h9
       ·rw [ho'] at hj; cases hj; rw [hd] at hp; cases hp; exact absurd rfl hdt
/-- **The region**, its stores (and what else must come last, in the order of the text) behind all that is read. -/
theorem wp_region_flowU (m : List Nat) (Ts : List Nat) (D : List (List (Nat × Nat))) (E : List (Nat × Nat)) (R : Nat → Value → World → Prop) (Tl : List (Nat × Oper)) {id : Nat} {l : List Oper} {a : Act} {W : World} (hm : P.follows .mixedOrders = true) (hok : flowTOk l D E m Ts = true) (hTs : tailOf Ts l 0 = Tl)
  (h : FlowU P l.toArray S W R a m Ts l D 0) (hSW : ∀ w, Below W.heap.size W w → S w) (hT : ∀ w, Below W.heap.size W w → Dep R w E a fun a => TailU P l.toArray S Q Tl a w) : (Code.region id l.toArray true).wp P Q a W := by
 subst hTs
 obtain ⟨hspec, hE⟩ := flowTOk_spec hok
 have hex : ∀ i, ∃ u : Value, ∀ o ds, l[i]? = some o → D[i]? = some ds → ¬ i ∈ m → Ts.contains i = false → PureAtU P l.toArray S R a o ds i u := fun i => by
  by_cases hc : ∃ o ds, l[i]? = some o ∧ D[i]? = some ds ∧ ¬ i ∈ m ∧ Ts.contains i = false
  ·obtain ⟨o, ds, h1, h2, h3, h4⟩ := hc
   have := flowU_get l D 0 h i o ds h1 h2
   rw [Nat.zero_add, if_neg (by omega)] at this
   obtain ⟨u, hu⟩ := this h4
   exact ⟨u, fun o' ds' k1 k2 _ _ => by rw [h1] at k1; rw [h2] at k2; cases k1; cases k2; exact hu⟩
  ·exact ⟨undef, fun o ds k1 k2 k3 k4 => absurd ⟨o, ds, k1, k2, k3, k4⟩ hc⟩
 have hch : ∃ u : Nat → Value, ∀ i o ds, l[i]? = some o → D[i]? = some ds → ¬ i ∈ m → Ts.contains i = false → PureAtU P l.toArray S R a o ds i (u i) := ⟨fun i => Classical.choose (hex i), fun i => Classical.choose_spec (hex i)⟩
 obtain ⟨u, hu⟩ := hch
 have hfalse : ∀ i, i < l.length → (Array.replicate l.toArray.size false).getD i true = false := fun i hi => by simp [hi]
 have hlen : ∀ {i : Nat} {o : Oper}, l[i]? = some o → i < l.length := fun hi => (List.getElem?_eq_some_iff.1 hi).1
 refine wp_region_any hm ?_
 refine flowU_any hok h hSW hT hu _ (List.range l.length) _ (fun _ => undef) _ _ (tailOf Ts l 0) (by simp) (fun i hi _ => by simpa using hi) (by simp) (fun k j hk hkl _ => by rw [hfalse k hk] at hkl; cases hkl) ?_ (fun i o hi _ hL => ?_) (tailOf_lt l 0) (fun i o => ?_) (.inl ⟨rfl, fun i o hi _ => hfalse i (hlen hi), fun i o hi _ hL => ?_, Below.drew (Below.refl _ _)⟩)
 ·refine ⟨rfl, rfl, fun i o d hi hd hL => ?_, fun t _ => rfl⟩
  rw [hfalse i (hlen hi)] at hL
  cases hL
 ·rw [hfalse i (hlen hi)] at hL
  cases hL
 ·rw [tailOf_mem]
  constructor
  ·rintro ⟨_, h1, h2⟩
   exact ⟨by simpa using h1, h2, hfalse i (hlen (by simpa using h1))⟩
  ·rintro ⟨h1, h2, _⟩
   exact ⟨Nat.zero_le _, by simpa using h1, h2⟩
 ·rw [hfalse i (hlen hi)] at hL
  cases hL
theorem DepP.mono {f g : Act → Prop} (h : ∀ a, f a → g a) : ∀ (ds : List (Nat × Nat)) (a : Act), DepP R ds a f → DepP R ds a g
 | [], a, k => h a k
 | (t, j) :: ds, a, k => fun v hv => DepP.mono h ds _ (k v hv)
theorem Dep.mono {w : World} {f g : Act → Prop} (h : ∀ a, f a → g a) : ∀ (ds : List (Nat × Nat)) (a : Act), Dep R w ds a f → Dep R w ds a g
 | [], a, k => h a k
 | (t, j) :: ds, a, k => fun v hv => Dep.mono h ds _ (k v hv)
theorem TailS.toU {ops : Array Oper} : ∀ (l : List (Nat × Oper)) (a : Act) (w : World), TailS P ops Q l a w → TailU P ops (fun _ => True) Q l a w
 | [], _, _, h => ⟨True.intro, h⟩
 | (_, o) :: l, _, _, h => ⟨True.intro, fun K hK => h K fun v w' hs => hK v w' (TailS.toU l _ _ hs)⟩
theorem FlowT.toU {ops : Array Oper} {W : World} {a0 : Act} {m Ts : List Nat} : ∀ (l : List Oper) (D : List (List (Nat × Nat))) (i : Nat), FlowT P ops W R a0 m Ts l D i → FlowU P ops (fun _ => True) W R a0 m Ts l D i
 | [], _, _, _ => True.intro
 | _ :: _, [], _, h => h.elim
 | o :: l, ds :: D, i, h => ⟨by
  have h1 := h.1
  by_cases hi : i ∈ m
  ·rw [if_pos hi] at h1 ⊢
   exact h1
  ·rw [if_neg hi] at h1 ⊢
   exact fun ht => (h1 ht).imp fun u hu => ⟨hu.1, DepP.mono (fun a k w K _ => k w K) _ _ hu.2⟩, FlowT.toU l D (i + 1) h.2⟩
theorem wp_region_flowT (m : List Nat) (Ts : List Nat) (D : List (List (Nat × Nat))) (E : List (Nat × Nat)) (R : Nat → Value → World → Prop) (Tl : List (Nat × Oper)) {id : Nat} {l : List Oper} {a : Act} {W : World} (hm : P.follows .mixedOrders = true) (hok : flowTOk l D E m Ts = true) (hTs : tailOf Ts l 0 = Tl)
  (h : FlowT P l.toArray W R a m Ts l D 0) (hT : ∀ w, Below W.heap.size W w → Dep R w E a fun a => TailS P l.toArray Q Tl a w) : (Code.region id l.toArray true).wp P Q a W :=
 wp_region_flowU (S := fun _ => True) m Ts D E R Tl hm hok hTs (FlowT.toU _ _ _ h) (fun _ _ => True.intro) fun w hw => Dep.mono (fun a k => TailS.toU _ _ _ k) _ _ (hT w hw)
end
end Go.Proofs.YtieaicdihingkaaGreat
