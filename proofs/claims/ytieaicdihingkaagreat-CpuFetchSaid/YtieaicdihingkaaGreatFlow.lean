/- A region that draws its order, each of whose operations yields the same value in every world of a kind: walked once, in the order of the text. -/
import Derived.WalkKit
import Derived.Orders
import Derived.Test.YtieaicdihingkaaGreatC1
namespace Go.Proofs.YtieaicdihingkaaGreat
theorem lA {α : Type} (l : List α) (i : Nat) (a : α) : l.toArray.setIfInBounds i a = (l.set i a).toArray := List.setIfInBounds_toArray ..
theorem lZ {α : Type} (x : α) (xs : List α) (a : α) : (x :: xs).set 0 a = a :: xs := List.set_cons_zero
theorem lS {α : Type} (x : α) (xs : List α) (n : Nat) (a : α) : (x :: xs).set (n + 1) a = x :: xs.set n a := List.set_cons_succ
theorem lQ : (∀ (a : Act) (d : Tmp) (v : Value), a.put (some d) v = { a with tmps := a.tmps.setIfInBounds d v }) ∧ (∀ (a : Act) (v : Value), a.put none v = a) ∧ (∀ (l : List Value) (i : Nat) (a : Value), l.toArray.setIfInBounds i a = (l.set i a).toArray) ∧ (∀ (x : Value) (xs : List Value) (a : Value), (x :: xs).set 0 a = a :: xs) ∧ (∀ (x : Value) (xs : List Value) (n : Nat) (a : Value), (x :: xs).set (n + 1) a = x :: xs.set n a) :=
  ⟨fun _ _ _ => rfl, fun _ _ => rfl, fun _ _ _ => List.setIfInBounds_toArray .., fun _ _ _ => List.set_cons_zero, fun _ _ _ _ => List.set_cons_succ⟩
open Go Go.RowKit
set_option linter.unusedVariables false
set_option linter.unusedSimpArgs false
set_option linter.unnecessarySimpa false
section
variable {P : Program} {Q : Exit → Act → World → Prop} {S : World → Prop}
/-- One operation, run at 'a' in any world of the kind, leaves 'v' and a world of the kind. -/
def FlowAt (P : Program) (ops : Array Oper) (Q : Exit → Act → World → Prop) (S : World → Prop) (o : Oper) (v : Value) (a : Act) : Prop :=
 ∀ (w : World) (K : Act → World → Prop), S w → (∀ w', S w' → K (a.put o.dst v) w') → if Region.wanted o (yielded ops a.tmps) = true then Oper.wp P o a w K Q else K (a.put o.dst undef) w
def Flow (P : Program) (ops : Array Oper) (Q : Exit → Act → World → Prop) (S : World → Prop) : List Oper → Act → Prop
 | [], a => ∀ w, S w → Q .normal a w
 | o :: rest, a => ∃ v, FlowAt P ops (fun _ _ _ => False) S o v a ∧ Flow P ops Q S rest (a.put o.dst v)
/-- What the order of the text must bear. -/
def flowOk (ops : List Oper) : Bool :=
 (List.range ops.length).all fun i => match ops[i]? with
  | none => true
  | some o =>
   (match o.op with | .select .. => false | _ => true) && (o.after.all fun e => !Region.binds .any e || decide (e.on < i)) &&
   (List.range ops.length).all fun j => match ops[j]? with
    | none => true
    | some p => match p.dst with
     | none => true
     | some t => (!(o.looksAt ops.toArray).contains t || (o.after.any fun e => Region.binds .any e && e.on == j)) && (i == j || o.dst != some t)
theorem flowOk_spec {ops : List Oper} (h : flowOk ops = true) (i : Nat) (o : Oper) (hi : ops[i]? = some o) :
  (∀ cs b, o.op ≠ .select cs b) ∧ (∀ e ∈ o.after, Region.binds .any e = true → e.on < i) ∧
  (∀ j p t, ops[j]? = some p → p.dst = some t → (t ∈ o.looksAt ops.toArray → ∃ e ∈ o.after, Region.binds .any e = true ∧ e.on = j) ∧ (i ≠ j → o.dst ≠ some t)) := by
 unfold flowOk at h
 have hlt := (List.getElem?_eq_some_iff.1 hi).1
 have h1 := (List.all_eq_true.1 h) i (List.mem_range.2 hlt)
 simp only [hi, Bool.and_eq_true] at h1
 obtain ⟨⟨h2, h3⟩, h4⟩ := h1
 refine ⟨fun cs b e => by rw [e] at h2; simp at h2, fun e he hb => ?_, fun j p t hj ht => ?_⟩
 ·have := (Array.all_eq_true_iff_forall_mem.1 h3) e he
  simpa [hb] using this
 ·have := (List.all_eq_true.1 h4) j (List.mem_range.2 (List.getElem?_eq_some_iff.1 hj).1)
  simp only [hj, ht, Bool.and_eq_true, Bool.or_eq_true, Bool.not_eq_true'] at this
  obtain ⟨h5, h6⟩ := this
  refine ⟨fun hm => ?_, fun hne hd => ?_⟩
  ·rcases h5 with h5 | h5
   ·have : (o.looksAt ops.toArray).contains t = true := by simpa using hm
    rw [this] at h5; cases h5
   ·obtain ⟨k, hk, hk2⟩ := Array.any_eq_true.1 h5
    simp only [Bool.and_eq_true, beq_iff_eq] at hk2
    exact ⟨o.after[k], Array.getElem_mem hk, hk2.1, hk2.2⟩
  ·rcases h6 with h6 | h6
   ·exact hne (by simpa using h6)
   ·rw [hd] at h6; simp at h6
/-- The states of the order of the text. -/
def seqA (l : List Oper) (V : Nat → Value) (a : Act) : Nat → Act
 | 0 => a
 | i + 1 => (seqA l V a i).put ((l[i]?).bind (·.dst)) (V i)
theorem seqA_cons (o : Oper) (l : List Oper) (V : Nat → Value) (v : Value) (a : Act) : ∀ i, seqA (o :: l) (fun | 0 => v | i + 1 => V i) a (i + 1) = seqA l V (a.put o.dst v) i
 | 0 => rfl
 | i + 1 => by
  show (seqA (o :: l) (fun | 0 => v | i + 1 => V i) a (i + 1)).put _ _ = _
  rw [seqA_cons o l V v a i]
  rfl
theorem flow_open {ops : Array Oper} : ∀ (l : List Oper) (a : Act), Flow P ops Q S l a → ∃ V : Nat → Value, (∀ i o, l[i]? = some o → FlowAt P ops (fun _ _ _ => False) S o (V i) (seqA l V a i)) ∧ ∀ w, S w → Q .normal (seqA l V a l.length) w
 | [], a, h => ⟨fun _ => undef, fun i o hi => by simp at hi, h⟩
 | o :: l, a, ⟨v, h1, h2⟩ => by
  obtain ⟨V, h3, h4⟩ := flow_open l _ h2
  refine ⟨fun | 0 => v | i + 1 => V i, fun i p hi => ?_, fun w hS => ?_⟩
  ·cases i with
   | zero => simp at hi; subst hi; exact h1
   | succ i => rw [seqA_cons]; exact h3 i p (by simpa using hi)
  ·rw [List.length_cons, seqA_cons]; exact h4 w hS
/-- A state in which just the operations of L have come up. -/
structure Agr (l : List Oper) (V : Nat → Value) (a0 : Act) (L : Nat → Prop) (a : Act) : Prop where
 defers : a.defers = a0.defers
 size : a.tmps.size = a0.tmps.size
 there : ∀ i o d, l[i]? = some o → o.dst = some d → L i → a.tmps[d]? = if d < a0.tmps.size then some (V i) else none
 free : ∀ t, (∀ i o, l[i]? = some o → L i → o.dst ≠ some t) → a.tmps[t]? = a0.tmps[t]?
theorem put_at (a : Act) (d t : Nat) (v : Value) : (a.put (some d) v).tmps[t]? = if d = t then (if d < a.tmps.size then some v else none) else a.tmps[t]? := by
 simp only [Act.put, Array.getElem?_setIfInBounds]
theorem Agr.put {l : List Oper} {V : Nat → Value} {a0 a : Act} {L : Nat → Prop} (h : Agr l V a0 L a) {i : Nat} {o : Oper} (hi : l[i]? = some o)
  (hd : ∀ j p t, l[j]? = some p → p.dst = some t → i ≠ j → o.dst ≠ some t) : Agr l V a0 (fun j => L j ∨ j = i) (a.put o.dst (V i)) := by
 cases ho : o.dst with
 | none =>
  refine ⟨h.defers, h.size, fun j p d hj hp hL => ?_, fun t ht => h.free t fun j p hj hL => ht j p hj (.inl hL)⟩
  rcases hL with hL | rfl
  ·exact h.there j p d hj hp hL
  ·rw [hi] at hj; cases hj; rw [ho] at hp; cases hp
 | some e =>
  refine ⟨h.defers, by simpa [Act.put] using h.size, fun j p d hj hp hL => ?_, fun t ht => ?_⟩
  ·rw [put_at]
   by_cases hij : i = j
   ·subst hij
    rw [hi] at hj; cases hj
    rw [ho] at hp; cases hp
    rw [if_pos rfl, h.size]
   ·have : e ≠ d := fun he => hd j p d hj hp hij (by rw [ho, he])
    rw [if_neg this]
    exact h.there j p d hj hp (hL.resolve_right (fun e => hij e.symm))
  ·have : e ≠ t := fun he => ht i o hi (.inr rfl) (by rw [ho, he])
   rw [put_at, if_neg this]
   exact h.free t fun j p hj hL => ht j p hj (.inl hL)
theorem Agr.eq_at {l : List Oper} {V : Nat → Value} {a0 a b : Act} {L M : Nat → Prop} (h : Agr l V a0 L a) (k : Agr l V a0 M b) (t : Nat)
  (ht : ∀ j p, l[j]? = some p → p.dst = some t → L j ∧ M j) : a.tmps[t]? = b.tmps[t]? := by
 by_cases he : ∃ (j : Nat) (p : Oper), l[j]? = some p ∧ p.dst = some t
 ·obtain ⟨j, p, hj, hp⟩ := he
  rw [h.there j p t hj hp (ht j p hj hp).1, k.there j p t hj hp (ht j p hj hp).2]
 ·rw [h.free t fun i o hi _ e => he ⟨i, o, hi, e⟩, k.free t fun i o hi _ e => he ⟨i, o, hi, e⟩]
theorem agr_seq {l : List Oper} (hok : flowOk l = true) (V : Nat → Value) (a0 : Act) : ∀ k, k ≤ l.length → Agr l V a0 (· < k) (seqA l V a0 k)
 | 0, _ => ⟨rfl, rfl, fun i o d _ _ h => absurd h (Nat.not_lt_zero _), fun t _ => rfl⟩
 | k + 1, hk => by
  have hi : l[k]? = some l[k] := List.getElem?_eq_getElem (by omega)
  have := (agr_seq hok V a0 k (by omega)).put hi (fun j p t hj hp hne => ((flowOk_spec hok k _ hi).2.2 j p t hj hp).2 hne)
  have e : seqA l V a0 (k + 1) = (seqA l V a0 k).put (l[k]).dst (V k) := by
   show (seqA l V a0 k).put _ _ = _
   rw [hi]; rfl
  rw [e]
  have el : (fun j => j < k ∨ j = k) = (fun j => j < k + 1) := funext fun j => propext (by omega)
  rw [el] at this
  exact this
theorem act_ext {a b : Act} (h1 : a.defers = b.defers) (h2 : ∀ t : Nat, a.tmps[t]? = b.tmps[t]?) : a = b := by
 cases a; cases b
 simp only at h1 h2
 subst h1
 congr 1
 exact Array.ext_getElem? h2
theorem put_inj {a b : Act} {d : Option Tmp} {u v : Value} (h : a.put d u = a.put d v) (hs : b.tmps.size = a.tmps.size) : b.put d u = b.put d v := by
 cases d with
 | none => rfl
 | some d =>
  by_cases hd : d < a.tmps.size
  ·have : (a.put (some d) u).tmps[d]? = (a.put (some d) v).tmps[d]? := by rw [h]
   rw [put_at, put_at, if_pos rfl, if_pos rfl, if_pos hd, if_pos hd] at this
   cases this; rfl
  ·refine act_ext rfl fun t => ?_
   rw [put_at, put_at]
   split
   ·rw [if_neg (by rw [hs]; exact hd), if_neg (by rw [hs]; exact hd)]
   ·rfl
/-- An operation's law at one state serves at another that it can't tell from it. -/
theorem FlowAt.at {ops : Array Oper} {o : Oper} {v : Value} {a b : Act} (h : FlowAt P ops (fun _ _ _ => False) S o v a) (hd : b.defers = a.defers) (hs : b.tmps.size = a.tmps.size)
  (he : execOp b.eval o = execOp a.eval o) (hw : Region.wanted o (yielded ops b.tmps) = Region.wanted o (yielded ops a.tmps)) {i : Nat} (hi : ops[i]? = some o)
  {K : Act → World → Prop} {w : World} (hS : S w) (hK : ∀ w', S w' → K (b.put o.dst v) w') : wpOp P ops Q i K b w := by
 have := h w (fun a' w' => a' = a.put o.dst v ∧ S w') hS (fun w' hS' => ⟨rfl, hS'⟩)
 unfold wpOp
 simp only [hi, hw]
 split
 ·rename_i hwn
  rw [if_pos hwn] at this
  refine .inl ?_
  unfold Oper.wp at *
  rw [he]
  have go : ∀ u w', (a.put o.dst u = a.put o.dst v ∧ S w') → K (b.put o.dst u) w' := fun u w' ⟨e, hS'⟩ => by rw [put_inj e hs]; exact hK w' hS'
  generalize (execOp a.eval o).run P w = r at *
  cases r with
  | ok n w' =>
   cases n <;> simp only [Oper.upon] at this ⊢
   case value u => exact go _ _ this
   case skip => exact go _ _ this
   case defer d =>
    exfalso
    have h1 := congrArg Act.defers this.1
    cases ho : o.dst <;> simp [ho, Act.put] at h1
   case enter f args =>
    refine Calls.mono this fun e w'' he => ?_
    cases e with
    | returned u => exact go _ _ he
    | panicked c => exact he.elim
    | outgrown => obtain ⟨_, _, hF⟩ := he; exact hF.elim
   case row row args => exact Rows.mono this fun u w'' he => go _ _ he
  | halt x w' =>
   cases x <;> simp only [Oper.upon] at this ⊢
 ·rename_i hwn
  rw [if_neg hwn] at this
  obtain ⟨e, hS'⟩ := this
  rw [put_inj e hs]
  exact hK w hS'
theorem unready {ops : Array Oper} {listed : Array Bool} (hok : flowOk ops.toList = true) (hsz : listed.size = ops.size) (hr : Region.ready .any ops listed = []) : ∀ n i, i ≤ n → i < ops.size → listed.getD i true = true := by
 intro n
 induction n with
 | zero =>
  intro i hin hi
  obtain rfl : i = 0 := by omega
  refine Classical.byContradiction fun hne => ?_
  have ho : ops[0]? = some ops[0] := Array.getElem?_eq_getElem hi
  have : 0 ∈ Region.ready .any ops listed := mem_ready.2 ⟨by simpa using hne, ops[0], ho, fun e he hb => by
   have := (flowOk_spec hok 0 ops[0] (by simpa using ho)).2.1 e he hb
   omega⟩
  rw [hr] at this
  cases this
 | succ n ih =>
  intro i hin hi
  by_cases hlt : i ≤ n
  ·exact ih i hlt hi
  refine Classical.byContradiction fun hne => ?_
  have ho : ops[i]? = some ops[i] := Array.getElem?_eq_getElem hi
  have : i ∈ Region.ready .any ops listed := mem_ready.2 ⟨by simpa using hne, ops[i], ho, fun e he hb => by
   have h1 := (flowOk_spec hok i ops[i] (by simpa using ho)).2.1 e he hb
   have h2 := ih e.on (by omega) (by omega)
   have h3 : e.on < listed.size := by omega
   simpa [h3] using h2⟩
  rw [hr] at this
  cases this
theorem flow_any {ops : Array Oper} (hok : flowOk ops.toList = true) {V : Nat → Value} {a0 : Act}
  (hstep : ∀ i o, ops.toList[i]? = some o → FlowAt P ops (fun _ _ _ => False) S o (V i) (seqA ops.toList V a0 i)) (hend : ∀ w, S w → Q .normal (seqA ops.toList V a0 ops.toList.length) w) :
  ∀ (fuel : Nat) (rs : List Nat) (listed : Array Bool) (a : Act) (w : World), rs.length ≤ fuel → (∀ i, i < ops.size → listed.getD i true = false → i ∈ rs) → listed.size = ops.size →
   Agr ops.toList V a0 (fun i => listed.getD i true = true) a → S w → wpAny P .any ops Q fuel listed a w := by
 have fin : ∀ (listed : Array Bool) (a : Act) (w : World), (∀ i, i < ops.size → listed.getD i true = true) → Agr ops.toList V a0 (fun i => listed.getD i true = true) a → S w → Q .normal a w := by
  intro listed a w hall hag hS
  have h1 := agr_seq hok V a0 ops.toList.length (Nat.le_refl _)
  have : a = seqA ops.toList V a0 ops.toList.length := act_ext (hag.defers.trans h1.defers.symm) fun t => hag.eq_at h1 t fun j p hj hp => by
   have hj' := (List.getElem?_eq_some_iff.1 hj).1
   exact ⟨hall j (by simpa using hj'), hj'⟩
  rw [this]
  exact hend w hS
 intro fuel
 induction fuel with
 | zero =>
  intro rs listed a w hlen hrs hsz hag hS
  have hall : ∀ i, i < ops.size → listed.getD i true = true := fun i hi => by
   refine Classical.byContradiction fun hne => ?_
   have := hrs i hi (by simpa using hne)
   have : rs = [] := List.length_eq_zero_iff.1 (by omega)
   simp_all
  refine ⟨?_, fin listed a w hall hag hS⟩
  cases hr : Region.ready .any ops listed with
  | nil => rfl
  | cons x xs =>
   have hx : x ∈ Region.ready .any ops listed := by rw [hr]; exact List.mem_cons_self ..
   obtain ⟨h0, o, ho, _⟩ := mem_ready.1 hx
   have := hall x (Array.getElem?_eq_some_iff.1 ho).1
   rw [h0] at this
   cases this
 | succ fuel ih =>
  intro rs listed a w hlen hrs hsz hag hS
  refine ⟨fun hr => fin listed a w (fun i hi => unready hok hsz hr i i (Nat.le_refl _) hi) hag hS, fun i hi => ?_⟩
  obtain ⟨h0, o, ho, hall⟩ := mem_ready.1 hi
  have hlt := (Array.getElem?_eq_some_iff.1 ho).1
  have ho' : ops.toList[i]? = some o := by simpa using ho
  have spec := flowOk_spec hok i o ho'
  have hseq := agr_seq hok V a0 i (by simp; omega)
  have hlook : ∀ t, t ∈ o.looksAt ops → a.tmps[t]? = (seqA ops.toList V a0 i).tmps[t]? := fun t ht => hag.eq_at hseq t fun j p hj hp => by
   obtain ⟨e, he, hb, rfl⟩ := (spec.2.2 j p t hj hp).1 (by simpa using ht)
   have hj' := (List.getElem?_eq_some_iff.1 hj).1
   have h2 := hall e he hb
   have h3 : e.on < listed.size := by rw [hsz]; simpa using hj'
   exact ⟨by simpa [h3] using h2, spec.2.1 e he hb⟩
  have hev : ∀ x ∈ o.op.operands, a.eval x = (seqA ops.toList V a0 i).eval x := fun x hx => by
   cases x with
   | tmp t =>
    have := hlook t (List.mem_append_left _ (List.mem_filterMap.2 ⟨.tmp t, by simpa using hx, rfl⟩))
    simp only [Act.eval, Array.getD_eq_getD_getElem?, this]
   | _ => rfl
  refine (hstep i o ho').at (hag.defers.trans hseq.defers.symm) (hag.size.trans hseq.size.symm) (execOp_congr o spec.1 hev) ?_ ho hS fun w' hS' => ?_
  ·unfold Region.wanted
   cases hg : o.guard with
   | none => rfl
   | some gw =>
    obtain ⟨g, want⟩ := gw
    simp only []
    have : yielded ops a.tmps g = yielded ops (seqA ops.toList V a0 i).tmps g := by
     unfold yielded
     cases ht : (ops[g]?).bind (·.dst) with
     | none => rfl
     | some t => simp only [Option.bind_some, hlook t (by simp [Oper.looksAt, hg, ht])]
    rw [this]
  ·have hmem := hrs i hlt h0
   refine ih (rs.erase i) _ _ _ (by have := List.length_erase_of_mem hmem; have := List.length_pos_of_mem hmem; omega) (fun j hj hjl => ?_) (by simpa using hsz) ?_ hS'
   ·by_cases hij : i = j
    ·subst hij
     have : i < listed.size := by omega
     simp [this] at hjl
    ·rw [getD_set_ne true hij] at hjl
     exact (List.mem_erase_of_ne (Ne.symm hij)).2 (hrs j hj hjl)
   ·have := hag.put ho' (fun j p t hj hp hne => (spec.2.2 j p t hj hp).2 hne)
    have el : (fun j => listed.getD j true = true ∨ j = i) = (fun j => (listed.setIfInBounds i true).getD j true = true) := funext fun j => propext (by
     by_cases hij : i = j
     ·subst hij
      have : i < listed.size := by omega
      simp [this]
     ·rw [getD_set_ne true hij]; simp [Ne.symm hij])
    rw [el] at this
    exact this
/-- **The region**, from its walk in the order of the text. -/
theorem wp_region_flow {id : Nat} {l : List Oper} {a : Act} {w : World} (hm : P.follows .mixedOrders = true) (hok : flowOk l = true) (hS : S w.drew)
  (h : Flow P l.toArray Q S l a) : (Code.region id l.toArray true).wp P Q a w := by
 obtain ⟨V, h1, h2⟩ := flow_open l a h
 refine wp_region_any hm ?_
 refine flow_any (ops := l.toArray) (by simpa using hok) (V := V) (a0 := a) (by simpa using h1) (by simpa using h2) _ (List.range l.length) _ _ _ (by simp) (fun i hi _ => by simpa using hi) (by simp) ?_ hS
 refine ⟨rfl, rfl, fun i o d hi hd hL => ?_, fun t _ => rfl⟩
 have hlt := (List.getElem?_eq_some_iff.1 hi).1
 simp [hlt] at hL
theorem Flow.step {ops : Array Oper} {o : Oper} {rest : List Oper} {a : Act} (v : Value)
  (h1 : ∀ (w : World) (K : Act → World → Prop), S w → (∀ w', S w' → K (a.put o.dst v) w') → if Region.wanted o (yielded ops a.tmps) = true then Oper.wp P o a w K (fun _ _ _ => False) else K (a.put o.dst undef) w)
  (h2 : Flow P ops Q S rest (a.put o.dst v)) : Flow P ops Q S (o :: rest) a := ⟨v, h1, h2⟩
theorem Flow.done {ops : Array Oper} {a : Act} (h : ∀ w, S w → Q .normal a w) : Flow P ops Q S [] a := h
end
/-! ### The same where the values are known by a relation only (new memory): each operation is run over the values that it waits for; the last one, which waits for all, may write. -/
section
variable {P : Program} {Q : Exit → Act → World → Prop} {R : Nat → Value → World → Prop}
/-- The relation held when the value was made; since then memory was only added. -/
def Since (R : Nat → Value → World → Prop) (i : Nat) (v : Value) (w : World) : Prop := ∃ w1, R i v w1 ∧ Below w1.heap.size w1 w
def Dep (R : Nat → Value → World → Prop) (w : World) : List (Nat × Nat) → Act → (Act → Prop) → Prop
 | [], a, k => k a
 | (t, j) :: ds, a, k => ∀ v, Since R j v w → Dep R w ds (a.put (some t) v) k
def FlowR (P : Program) (ops : Array Oper) (Q : Exit → Act → World → Prop) (W : World) (R : Nat → Value → World → Prop) (a0 : Act) : List Oper → List (List (Nat × Nat)) → Nat → Prop
 | [o], [ds], _ => ∀ w, Below W.heap.size W w → Dep R w ds a0 fun a => ∀ K : Act → World → Prop, (∀ a' w', Q .normal a' w' → K a' w') → if Region.wanted o (yielded ops a.tmps) = true then Oper.wp P o a w K Q else K (a.put o.dst undef) w
 | o :: l, ds :: D, i => (∀ w, Below W.heap.size W w → Dep R w ds a0 fun a => ∀ K : Act → World → Prop, (∀ v w', R i v w' → Below w.heap.size w w' → K (a.put o.dst v) w') → if Region.wanted o (yielded ops a.tmps) = true then Oper.wp P o a w K (fun _ _ _ => False) else K (a.put o.dst undef) w) ∧ FlowR P ops Q W R a0 l D (i + 1)
 | _, _, _ => False
theorem FlowR.step {ops : Array Oper} {W : World} {a0 : Act} {o o2 : Oper} {l : List Oper} {ds d2 : List (Nat × Nat)} {D : List (List (Nat × Nat))} {i : Nat}
  (h1 : ∀ w, Below W.heap.size W w → Dep R w ds a0 fun a => ∀ K : Act → World → Prop, (∀ v w', R i v w' → Below w.heap.size w w' → K (a.put o.dst v) w') → if Region.wanted o (yielded ops a.tmps) = true then Oper.wp P o a w K (fun _ _ _ => False) else K (a.put o.dst undef) w)
  (h2 : FlowR P ops Q W R a0 (o2 :: l) (d2 :: D) (i + 1)) : FlowR P ops Q W R a0 (o :: o2 :: l) (ds :: d2 :: D) i := ⟨h1, h2⟩
theorem FlowR.last {ops : Array Oper} {W : World} {a0 : Act} {o : Oper} {ds : List (Nat × Nat)} {i : Nat}
  (h : ∀ w, Below W.heap.size W w → Dep R w ds a0 fun a => ∀ K : Act → World → Prop, (∀ a' w', Q .normal a' w' → K a' w') → if Region.wanted o (yielded ops a.tmps) = true then Oper.wp P o a w K Q else K (a.put o.dst undef) w) :
  FlowR P ops Q W R a0 [o] [ds] i := h
def edgeB (l : List Oper) (k j : Nat) : Bool := match l[k]? with
 | none => false
 | some o => o.after.any fun e => Region.binds .any e && e.on == j
def closeB (l : List Oper) : Nat → List Nat → List Nat
 | 0, S => S
 | f + 1, S => closeB l f ((List.range l.length).filter fun j => S.contains j || S.any fun k => edgeB l k j)
theorem closeB_listed {l : List Oper} {i : Nat} {G : Nat → Prop} (hi : ∀ j, edgeB l i j = true → G j) (hG : ∀ k, G k → ∀ j, edgeB l k j = true → G j) : ∀ (f : Nat) (S : List Nat), (∀ k ∈ S, k = i ∨ G k) → ∀ j ∈ closeB l f S, j = i ∨ G j
 | 0, S, h, j, hj => h j hj
 | f + 1, S, h, j, hj => by
  refine closeB_listed hi hG f _ (fun k hk => ?_) j hj
  have := (List.mem_filter.1 hk).2
  simp only [Bool.or_eq_true] at this
  rcases this with h1 | h1
  ·exact h k (by simpa using h1)
  ·obtain ⟨m, hm, he⟩ := List.any_eq_true.1 h1
   rcases h m hm with rfl | hg
   ·exact .inr (hi k he)
   ·exact .inr (hG m hg k he)
/-- What the order of the text must bear, and the lists of what each operation waits for. -/
def flowROk (l : List Oper) (D : List (List (Nat × Nat))) : Bool :=
 l.length == D.length && 0 < l.length &&
 (List.range l.length).all fun i => match l[i]?, D[i]? with
  | some o, some ds =>
   (match o.op with | .select .. => false | _ => true) && (o.after.all fun e => !Region.binds .any e || decide (e.on < i)) &&
   (ds.all fun tj => ((closeB l 9 [i]).contains tj.2 && tj.2 != i) && ((l[tj.2]?).bind (·.dst)) == some tj.1) &&
   ((List.range l.length).all fun j => match l[j]? with
    | none => true
    | some p =>
     (i + 1 != l.length || j == i || (closeB l 9 [i]).contains j) &&
     match p.dst with
     | none => true
     | some t => (!((o.looksAt l.toArray).contains t && (j + 1 != l.length || i == j) || i + 1 == l.length && j != i) || ds.any (fun tj => tj.1 == t && tj.2 == j)) && (i == j || o.dst != some t))
  | _, _ => false
structure RSpec (l : List Oper) (ds : List (Nat × Nat)) (i : Nat) (o : Oper) : Prop where
 sel : ∀ cs b, o.op ≠ .select cs b
 back : ∀ e ∈ o.after, Region.binds .any e = true → e.on < i
 dep : ∀ tj ∈ ds, (tj.2 ∈ closeB l 9 [i] ∧ tj.2 ≠ i) ∧ ∃ p, l[tj.2]? = some p ∧ p.dst = some tj.1
 looks : ∀ j p t, l[j]? = some p → p.dst = some t → t ∈ o.looksAt l.toArray → j + 1 ≠ l.length → (t, j) ∈ ds
 last : i + 1 = l.length → ∀ j p, l[j]? = some p → j ≠ i → j ∈ closeB l 9 [i]
 lastD : i + 1 = l.length → ∀ j p t, l[j]? = some p → j ≠ i → p.dst = some t → (t, j) ∈ ds
 one : ∀ j p t, l[j]? = some p → p.dst = some t → i ≠ j → o.dst ≠ some t
theorem flowROk_spec {l : List Oper} {D : List (List (Nat × Nat))} (h : flowROk l D = true) (i : Nat) (o : Oper) (hi : l[i]? = some o) : ∃ ds, D[i]? = some ds ∧ RSpec l ds i o := by
 unfold flowROk at h
 simp only [Bool.and_eq_true] at h
 obtain ⟨⟨h0, _⟩, h⟩ := h
 have hlt := (List.getElem?_eq_some_iff.1 hi).1
 have h1 := (List.all_eq_true.1 h) i (List.mem_range.2 hlt)
 have hlD : i < D.length := by rw [beq_iff_eq] at h0; omega
 have hD : D[i]? = some D[i] := List.getElem?_eq_getElem hlD
 rw [hi, hD] at h1
 simp only [Bool.and_eq_true] at h1
 obtain ⟨⟨⟨h2, h3⟩, h4⟩, h5⟩ := h1
 have any_spec : ∀ j, (o.after.any fun e => Region.binds .any e && e.on == j) = true → ∃ e ∈ o.after, Region.binds .any e = true ∧ e.on = j := fun j hj => by
  obtain ⟨k, hk, hk2⟩ := Array.any_eq_true.1 hj
  simp only [Bool.and_eq_true, beq_iff_eq] at hk2
  exact ⟨o.after[k], Array.getElem_mem hk, hk2.1, hk2.2⟩
 refine ⟨D[i], hD, fun cs b e => by rw [e] at h2; simp at h2, fun e he hb => ?_, fun tj htj => ?_, fun j p t hj ht hm hjl => ?_, fun hl j p hj hne => ?_, fun hl j p t hj hne ht => ?_, fun j p t hj ht hne hd => ?_⟩
 ·have := (Array.all_eq_true_iff_forall_mem.1 h3) e he
  simpa [hb] using this
 ·have := (List.all_eq_true.1 h4) tj htj
  simp only [Bool.and_eq_true, beq_iff_eq, bne_iff_ne] at this
  refine ⟨⟨by simpa using this.1.1, this.1.2⟩, ?_⟩
  cases hp : l[tj.2]? with
  | none => rw [hp] at this; simp at this
  | some p => exact ⟨p, rfl, by simpa [hp] using this.2⟩
 all_goals
  have hx := (List.all_eq_true.1 h5) j (List.mem_range.2 (List.getElem?_eq_some_iff.1 hj).1)
  simp only [hj, Bool.and_eq_true] at hx
  obtain ⟨hx1, hx2⟩ := hx
 ·simp only [ht, Bool.and_eq_true, Bool.or_eq_true, Bool.not_eq_true'] at hx2
  rcases hx2.1 with hx3 | hx3
  ·simp only [Bool.or_eq_false_iff] at hx3
   have : (o.looksAt l.toArray).contains t = true := by simpa using hm
   rw [this] at hx3
   simp [hjl] at hx3
  ·obtain ⟨tj, htj, e⟩ := List.any_eq_true.1 hx3
   simp only [Bool.and_eq_true, beq_iff_eq] at e
   obtain ⟨a, b⟩ := tj
   simp only at e
   obtain ⟨rfl, rfl⟩ := e
   exact htj
 ·simp only [hl, bne_self_eq_false, Bool.false_or, Bool.or_eq_true, beq_iff_eq] at hx1
  simpa using hx1.resolve_left hne
 ·simp only [ht, Bool.and_eq_true, Bool.or_eq_true, Bool.not_eq_true'] at hx2
  rcases hx2.1 with hx3 | hx3
  ·simp [hl, hne] at hx3
  ·obtain ⟨tj, htj, e⟩ := List.any_eq_true.1 hx3
   simp only [Bool.and_eq_true, beq_iff_eq] at e
   obtain ⟨a, b⟩ := tj
   simp only at e
   obtain ⟨rfl, rfl⟩ := e
   exact htj
 ·simp only [ht, Bool.and_eq_true, Bool.or_eq_true] at hx2
  rcases hx2.2 with hx3 | hx3
  ·exact hne (by simpa using hx3)
  ·rw [hd] at hx3; simp at hx3
theorem flowR_get {ops : Array Oper} {W : World} {a0 : Act} : ∀ (l : List Oper) (D : List (List (Nat × Nat))) (n : Nat), FlowR P ops Q W R a0 l D n → ∀ i o ds, l[i]? = some o → D[i]? = some ds →
  (i + 1 = l.length → ∀ w, Below W.heap.size W w → Dep R w ds a0 fun a => ∀ K : Act → World → Prop, (∀ a' w', Q .normal a' w' → K a' w') → if Region.wanted o (yielded ops a.tmps) = true then Oper.wp P o a w K Q else K (a.put o.dst undef) w) ∧
  (i + 1 ≠ l.length → ∀ w, Below W.heap.size W w → Dep R w ds a0 fun a => ∀ K : Act → World → Prop, (∀ v w', R (n + i) v w' → Below w.heap.size w w' → K (a.put o.dst v) w') → if Region.wanted o (yielded ops a.tmps) = true then Oper.wp P o a w K (fun _ _ _ => False) else K (a.put o.dst undef) w)
 | [], _, _, h => by simp [FlowR] at h
 | [o], D, n, h => by
  intro i o' ds hi hd
  cases i with
  | succ i => simp at hi
  | zero =>
   cases D with
   | nil => simp at hd
   | cons d D =>
    cases D with
    | cons d2 D => simp only [FlowR] at h; exact h.2.elim
    | nil =>
     simp at hi hd
     subst hi; subst hd
     exact ⟨fun _ => h, fun e => absurd rfl e⟩
 | o :: o2 :: l, D, n, h => by
  intro i o' ds hi hd
  cases D with
  | nil => simp at hd
  | cons d D =>
   simp only [FlowR] at h
   cases i with
   | zero =>
    simp at hi hd
    subst hi; subst hd
    exact ⟨fun e => by simp at e, fun _ => h.1⟩
   | succ i =>
    have := flowR_get (o2 :: l) D (n + 1) h.2 i o' ds (by simpa using hi) (by simpa using hd)
    simp only [List.length_cons] at this ⊢
    refine ⟨fun e => this.1 (by omega), fun e => ?_⟩
    have h2 := this.2 (by omega)
    have e2 : n + (i + 1) = n + 1 + i := by omega
    rw [e2]
    exact h2
/-- The state over which an operation was shown. -/
def putAll (val : Nat → Value) : List (Nat × Nat) → Act → Act
 | [], a => a
 | (t, j) :: ds, a => putAll val ds (a.put (some t) (val j))
theorem dep_at {w : World} (val : Nat → Value) : ∀ (ds : List (Nat × Nat)) (a : Act) (k : Act → Prop), (∀ tj ∈ ds, Since R tj.2 (val tj.2) w) → Dep R w ds a k → k (putAll val ds a)
 | [], a, k, _, h => h
 | (t, j) :: ds, a, k, hv, h => dep_at val ds _ k (fun tj htj => hv tj (List.mem_cons_of_mem _ htj)) (h _ (hv (t, j) (List.mem_cons_self ..)))
theorem putAll_defers (val : Nat → Value) : ∀ (ds : List (Nat × Nat)) (a : Act), (putAll val ds a).defers = a.defers
 | [], _ => rfl
 | (t, j) :: ds, a => putAll_defers val ds _
theorem putAll_size (val : Nat → Value) : ∀ (ds : List (Nat × Nat)) (a : Act), (putAll val ds a).tmps.size = a.tmps.size
 | [], _ => rfl
 | (t, j) :: ds, a => (putAll_size val ds _).trans (by simp [Act.put])
theorem putAll_free (val : Nat → Value) (t : Nat) : ∀ (ds : List (Nat × Nat)) (a : Act), (∀ tj ∈ ds, tj.1 ≠ t) → (putAll val ds a).tmps[t]? = a.tmps[t]?
 | [], _, _ => rfl
 | (u, j) :: ds, a, h => by
  rw [putAll, putAll_free val t ds _ (fun tj htj => h tj (List.mem_cons_of_mem _ htj)), put_at, if_neg (h (u, j) (List.mem_cons_self ..))]
theorem putAll_there (val : Nat → Value) (t j : Nat) : ∀ (ds : List (Nat × Nat)) (a : Act), (t, j) ∈ ds → (∀ i, (t, i) ∈ ds → i = j) → (putAll val ds a).tmps[t]? = if t < a.tmps.size then some (val j) else none
 | [], _, h, _ => by simp at h
 | (u, k) :: ds, a, h, hu => by
  rw [putAll]
  by_cases hm : (t, j) ∈ ds
  ·rw [putAll_there val t j ds _ hm (fun i hi => hu i (List.mem_cons_of_mem _ hi))]
   simp [Act.put]
  ·have he : (u, k) = (t, j) := by
    rcases List.mem_cons.1 h with h | h
    ·exact h.symm
    ·exact absurd h hm
   cases he
   rw [putAll_free val t ds _ (fun tj htj e => hm (by
    obtain ⟨a1, b1⟩ := tj
    simp only at e
    subst e
    have := hu b1 (List.mem_cons_of_mem _ htj)
    subst this
    exact htj)), put_at, if_pos rfl]
theorem Agr.congr {l : List Oper} {V U : Nat → Value} {a0 a : Act} {L : Nat → Prop} (h : Agr l V a0 L a) (e : ∀ i, L i → V i = U i) : Agr l U a0 L a :=
 ⟨h.defers, h.size, fun i o d hi hd hL => by rw [h.there i o d hi hd hL, e i hL], h.free⟩
/-- Where the run goes at one state it goes at another that the operation can't tell from it. -/
theorem relatedAt {ops : Array Oper} {o : Oper} {a b : Act} {w : World} {G : Value → World → Prop}
  (h : ∀ K : Act → World → Prop, (∀ v w', G v w' → K (a.put o.dst v) w') → if Region.wanted o (yielded ops a.tmps) = true then Oper.wp P o a w K (fun _ _ _ => False) else K (a.put o.dst undef) w)
  (hd : b.defers = a.defers) (hs : b.tmps.size = a.tmps.size)
  (he : execOp b.eval o = execOp a.eval o) (hw : Region.wanted o (yielded ops b.tmps) = Region.wanted o (yielded ops a.tmps)) {i : Nat} (hi : ops[i]? = some o)
  {K : Act → World → Prop} (hK : ∀ v w', G v w' → K (b.put o.dst v) w') : wpOp P ops Q i K b w := by
 have := h (fun a' w' => ∃ v, a' = a.put o.dst v ∧ G v w') (fun v w' hG => ⟨v, rfl, hG⟩)
 unfold wpOp
 simp only [hi, hw]
 have go : ∀ u w', (∃ v, a.put o.dst u = a.put o.dst v ∧ G v w') → K (b.put o.dst u) w' := fun u w' ⟨v, e, hG⟩ => by rw [put_inj e hs]; exact hK v w' hG
 split
 ·rename_i hwn
  rw [if_pos hwn] at this
  refine .inl ?_
  unfold Oper.wp at *
  rw [he]
  generalize (execOp a.eval o).run P w = r at *
  cases r with
  | ok n w' =>
   cases n <;> simp only [Oper.upon] at this ⊢
   case value u => exact go _ _ this
   case skip => exact go _ _ this
   case defer d =>
    exfalso
    obtain ⟨v, h1, _⟩ := this
    have h1 := congrArg Act.defers h1
    cases ho : o.dst <;> simp [ho, Act.put] at h1
   case enter f args =>
    refine Calls.mono this fun e w'' he => ?_
    cases e with
    | returned u => exact go _ _ he
    | panicked c => exact he.elim
    | outgrown => obtain ⟨_, _, hF⟩ := he; exact hF.elim
   case row row args => exact Rows.mono this fun u w'' he => go _ _ he
  | halt x w' =>
   cases x <;> simp only [Oper.upon] at this ⊢
 ·rename_i hwn
  rw [if_neg hwn] at this
  exact go _ _ this
theorem lastAt {ops : Array Oper} {o : Oper} {a : Act} {w : World}
  (h : ∀ K : Act → World → Prop, (∀ a' w', Q .normal a' w' → K a' w') → if Region.wanted o (yielded ops a.tmps) = true then Oper.wp P o a w K Q else K (a.put o.dst undef) w)
  {i : Nat} (hi : ops[i]? = some o) {K : Act → World → Prop} (hK : ∀ a' w', Q .normal a' w' → K a' w') : wpOp P ops Q i K a w := by
 have := h K hK
 unfold wpOp
 simp only [hi]
 split
 ·rename_i hwn
  rw [if_pos hwn] at this
  refine .inl ?_
  unfold Oper.wp at *
  generalize (execOp a.eval o).run P w = r at *
  cases r with
  | ok n w' =>
   cases n <;> simp only [Oper.upon] at this ⊢
   case enter f args =>
    refine Calls.mono this fun e w'' he => ?_
    cases e with
    | returned u => exact he
    | panicked c => exact he
    | outgrown => exact he
   all_goals exact this
  | halt x w' =>
   cases x <;> simp only [Oper.upon] at this ⊢ <;> exact this
 ·rename_i hwn
  rw [if_neg hwn] at this
  exact this
theorem flowR_any {l : List Oper} {D : List (List (Nat × Nat))} {W : World} {a0 : Act} (hok : flowROk l D = true) (hF : FlowR P l.toArray Q W R a0 l D 0) :
  ∀ (fuel : Nat) (rs : List Nat) (listed : Array Bool) (val : Nat → Value) (a : Act) (w : World), rs.length ≤ fuel → (∀ i, i < l.length → listed.getD i true = false → i ∈ rs) → listed.size = l.length →
   listed.getD (l.length - 1) true = false → (∀ k j, k < l.length → listed.getD k true = true → edgeB l k j = true → listed.getD j true = true) → Agr l val a0 (fun i => listed.getD i true = true) a → (∀ i, i < l.length → listed.getD i true = true → Since R i (val i) w) → Below W.heap.size W w → wpAny P .any l.toArray Q fuel listed a w := by
 have hpos : 0 < l.length := by
  unfold flowROk at hok
  simp only [Bool.and_eq_true, decide_eq_true_eq] at hok
  exact hok.1.2
 have hdist : ∀ (i : Nat) (o : Oper), l[i]? = some o → ∀ (j : Nat) (p : Oper) (t : Nat), l[j]? = some p → p.dst = some t → i ≠ j → o.dst ≠ some t := fun i o hi => by
  obtain ⟨ds, _, hs⟩ := flowROk_spec hok i o hi
  exact hs.one
 intro fuel
 induction fuel with
 | zero =>
  intro rs listed val a w hlen hrs hsz hlast hdc hag hR hB
  have := hrs (l.length - 1) (by omega) hlast
  have h0 : rs = [] := List.length_eq_zero_iff.1 (by omega)
  rw [h0] at this
  cases this
 | succ fuel ih =>
  intro rs listed val a w hlen hrs hsz hlast hdc hag hR hB
  have hun : Region.ready .any l.toArray listed ≠ [] := by
   intro hr
   have key : ∀ n i, i ≤ n → i < l.length → listed.getD i true = true := by
    intro n
    induction n with
    | zero =>
     intro i hin hi
     obtain rfl : i = 0 := by omega
     refine Classical.byContradiction fun hne => ?_
     have ho : l[0]? = some l[0] := List.getElem?_eq_getElem hi
     obtain ⟨ds, _, hs⟩ := flowROk_spec hok 0 _ ho
     have : 0 ∈ Region.ready .any l.toArray listed := mem_ready.2 ⟨by simpa using hne, l[0], by simpa using ho, fun e he hb => by
      have := hs.back e he hb
      omega⟩
     rw [hr] at this
     cases this
    | succ n ihn =>
     intro i hin hi
     by_cases hlt : i ≤ n
     ·exact ihn i hlt hi
     refine Classical.byContradiction fun hne => ?_
     have ho : l[i]? = some l[i] := List.getElem?_eq_getElem hi
     obtain ⟨ds, _, hs⟩ := flowROk_spec hok i _ ho
     have : i ∈ Region.ready .any l.toArray listed := mem_ready.2 ⟨by simpa using hne, l[i], by simpa using ho, fun e he hb => by
      have h1 := hs.back e he hb
      have h2 := ihn e.on (by omega) (by omega)
      have h3 : e.on < listed.size := by omega
      simpa [h3] using h2⟩
     rw [hr] at this
     cases this
   have := key (l.length - 1) (l.length - 1) (Nat.le_refl _) (by omega)
   rw [hlast] at this
   cases this
  refine ⟨fun hr => absurd hr hun, fun i hi => ?_⟩
  obtain ⟨h0, o, ho, hall⟩ := mem_ready.1 hi
  have hlt : i < l.length := by simpa using (Array.getElem?_eq_some_iff.1 ho).1
  have ho' : l[i]? = some o := by simpa using ho
  obtain ⟨ds, hds, spec⟩ := flowROk_spec hok i o ho'
  have hget := flowR_get l D 0 hF i o ds ho' hds
  have hon : ∀ j, (∃ e ∈ o.after, Region.binds .any e = true ∧ e.on = j) → listed.getD j true = true := fun j ⟨e, he, hb, hj⟩ => by
   subst hj
   have h2 := hall e he hb
   have h1 := spec.back e he hb
   have h3 : e.on < listed.size := by omega
   simpa [h3] using h2
  have heq : ∀ j, (listed.setIfInBounds i true).getD j true = true ↔ (listed.getD j true = true ∨ j = i) := fun j => by
   by_cases hij : i = j
   ·subst hij
    have : i < listed.size := by omega
    simp [this]
   ·rw [getD_set_ne true hij]; simp [Ne.symm hij]
  have hei : ∀ j, edgeB l i j = true → listed.getD j true = true := fun j he => by
   unfold edgeB at he
   rw [ho'] at he
   obtain ⟨k, hk, hk2⟩ := Array.any_eq_true.1 he
   simp only [Bool.and_eq_true, beq_iff_eq] at hk2
   exact hon j ⟨o.after[k], Array.getElem_mem hk, hk2.1, hk2.2⟩
  have hdc' : ∀ k j, k < l.length → (listed.setIfInBounds i true).getD k true = true → edgeB l k j = true → (listed.setIfInBounds i true).getD j true = true := fun k j hk hkl he => (heq j).2 (.inl (by
   rcases (heq k).1 hkl with h1 | rfl
   ·exact hdc k j hk h1 he
   ·exact hei j he))
  have hcl : ∀ j, j ≠ i → j ∈ closeB l 9 [i] → listed.getD j true = true := fun j hj hm => by
   have := closeB_listed (l := l) (i := i) (G := fun j => listed.getD j true = true) hei (fun k hk j he => by
    by_cases hkl : k < l.length
    ·exact hdc k j hkl hk he
    ·unfold edgeB at he
     rw [List.getElem?_eq_none (by omega)] at he
     cases he) 9 [i] (fun k hk => .inl (by simpa using hk)) j hm
   exact this.resolve_left hj
  have hds2 : ∀ tj ∈ ds, Since R tj.2 (val tj.2) w := fun tj htj => by
   obtain ⟨h1, p, hp, _⟩ := spec.dep tj htj
   exact hR tj.2 (List.getElem?_eq_some_iff.1 hp).1 (hcl _ h1.2 h1.1)
  have huniq : ∀ t j k, (t, j) ∈ ds → (t, k) ∈ ds → k = j := fun t j k h1 h2 => by
   obtain ⟨_, p, hp, hpt⟩ := spec.dep _ h1
   obtain ⟨_, q, hq, hqt⟩ := spec.dep _ h2
   refine Classical.byContradiction fun hne => ?_
   exact hdist k q hq j p t hp hpt hne hqt
  have hthere : ∀ t j, (t, j) ∈ ds → a.tmps[t]? = (putAll val ds a0).tmps[t]? := fun t j htj => by
   obtain ⟨h1, p, hp, hpt⟩ := spec.dep _ htj
   rw [hag.there j p t hp hpt (hcl _ h1.2 h1.1), putAll_there val t j ds a0 htj (fun k hk => huniq t j k htj hk)]
  have hsame : ∀ t, (∀ j p, l[j]? = some p → p.dst = some t → listed.getD j true = true → (t, j) ∈ ds) → a.tmps[t]? = (putAll val ds a0).tmps[t]? := fun t ht => by
   by_cases he : ∃ j, (t, j) ∈ ds
   ·obtain ⟨j, hj⟩ := he
    exact hthere t j hj
   ·rw [putAll_free val t ds a0 (fun tj htj e => he ⟨tj.2, by rw [← e]; exact htj⟩)]
    exact hag.free t fun j p hj hL e => he ⟨j, ht j p hj e hL⟩
  have hdef : a.defers = (putAll val ds a0).defers := hag.defers.trans (putAll_defers val ds a0).symm
  have hsiz : a.tmps.size = (putAll val ds a0).tmps.size := hag.size.trans (putAll_size val ds a0).symm
  by_cases hil : i + 1 = l.length
  ·have hoth : ∀ j p, l[j]? = some p → j ≠ i → listed.getD j true = true := fun j p hj hne => hcl j hne (spec.last hil j p hj hne)
   have heq : a = putAll val ds a0 := act_ext hdef fun t => hsame t fun j p hj ht hL => spec.lastD hil j p t hj (fun e => by subst e; rw [h0] at hL; cases hL) ht
   have h1 := dep_at val ds a0 _ hds2 (hget.1 hil w hB)
   rw [← heq] at h1
   refine lastAt h1 ho fun a' w' hQ => ?_
   have hnil : Region.ready .any l.toArray (listed.setIfInBounds i true) = [] := by
    cases hr : Region.ready .any l.toArray (listed.setIfInBounds i true) with
    | nil => rfl
    | cons x xs =>
     have hx : x ∈ Region.ready .any l.toArray (listed.setIfInBounds i true) := by rw [hr]; exact List.mem_cons_self ..
     obtain ⟨hx0, p, hp, _⟩ := mem_ready.1 hx
     by_cases hxi : i = x
     ·subst hxi
      have : i < listed.size := by omega
      simp [this] at hx0
     ·rw [getD_set_ne true hxi, hoth x p (by simpa using hp) (Ne.symm hxi)] at hx0
      cases hx0
   cases fuel with
   | zero => exact ⟨hnil, hQ⟩
   | succ f => exact ⟨fun _ => hQ, by rw [hnil]; simp⟩
  ·have h1 := dep_at val ds a0 _ hds2 (hget.2 hil w hB)
   have hev : ∀ x ∈ o.op.operands, a.eval x = (putAll val ds a0).eval x := fun x hx => by
    cases x with
    | tmp t =>
     have := hsame t fun j p hj ht hL => spec.looks j p t hj ht (List.mem_append_left _ (List.mem_filterMap.2 ⟨.tmp t, by simpa using hx, rfl⟩)) (fun e => by rw [show j = l.length - 1 by omega, hlast] at hL; cases hL)
     simp only [Act.eval, Array.getD_eq_getD_getElem?, this]
    | _ => rfl
   refine relatedAt (G := fun v w' => R (0 + i) v w' ∧ Below w.heap.size w w') (fun K hK => h1 K (fun v w' hv hb => hK v w' ⟨hv, hb⟩)) hdef hsiz (execOp_congr o spec.sel hev) ?_ ho fun v w' ⟨hv, hb⟩ => ?_
   ·unfold Region.wanted
    cases hg : o.guard with
    | none => rfl
    | some gw =>
     obtain ⟨g, want⟩ := gw
     simp only []
     have : yielded l.toArray a.tmps g = yielded l.toArray (putAll val ds a0).tmps g := by
      unfold yielded
      cases ht : (l.toArray[g]?).bind (·.dst) with
      | none => rfl
      | some t => simp only [Option.bind_some, hsame t fun j p hj hp hL => spec.looks j p t hj hp (by simp only [Oper.looksAt, hg, ht, List.mem_append]; right; simp) (fun e => by rw [show j = l.length - 1 by omega, hlast] at hL; cases hL)]
     rw [this]
   ·have hmem := hrs i hlt h0
    have hne : i ≠ l.length - 1 := by omega
    have hval : ∀ j, listed.getD j true = true → j < l.length → val j = (if j = i then v else val j) := fun j hj _ => by
     by_cases e : j = i
     ·subst e; rw [h0] at hj; cases hj
     ·rw [if_neg e]
    refine ih (rs.erase i) _ (fun j => if j = i then v else val j) _ _ (by have := List.length_erase_of_mem hmem; have := List.length_pos_of_mem hmem; omega) (fun j hj hjl => ?_) (by simpa using hsz) (by rw [getD_set_ne true hne]; exact hlast) hdc' ?_ (fun j hj hjl => ?_) (below_next hB hb)
    ·by_cases hij : i = j
     ·subst hij
      have : i < listed.size := by omega
      simp [this] at hjl
     ·rw [getD_set_ne true hij] at hjl
      exact (List.mem_erase_of_ne (Ne.symm hij)).2 (hrs j hj hjl)
    ·have hag2 : Agr l (fun j => if j = i then v else val j) a0 (fun i => listed.getD i true = true) a := hag.congr fun j hj => by
      by_cases e : j = i
      ·subst e; rw [h0] at hj; cases hj
      ·simp only [if_neg e]
     have := hag2.put ho' (fun j p t hj hp hne => spec.one j p t hj hp hne)
     simp only [if_pos] at this
     have el : (fun j => listed.getD j true = true ∨ j = i) = (fun j => (listed.setIfInBounds i true).getD j true = true) := funext fun j => propext (by
      by_cases hij : i = j
      ·subst hij
       have : i < listed.size := by omega
       simp [this]
      ·rw [getD_set_ne true hij]; simp [Ne.symm hij])
     rw [el] at this
     exact this
    ·by_cases hij : i = j
     ·subst hij
      simp only [if_pos]
      rw [Nat.zero_add] at hv
      exact ⟨w', hv, Below.refl _ _⟩
     ·rw [getD_set_ne true hij] at hjl
      obtain ⟨w1, h1, h2⟩ := hR j hj hjl
      simp only [if_neg (Ne.symm hij)]
      exact ⟨w1, h1, below_next h2 hb⟩
/-- **The region**, its last operation the only one that may write. -/
theorem wp_region_flowR (D : List (List (Nat × Nat))) (R : Nat → Value → World → Prop) {id : Nat} {l : List Oper} {a : Act} {W : World} (hm : P.follows .mixedOrders = true) (hok : flowROk l D = true)
  (h : FlowR P l.toArray Q W R a l D 0) : (Code.region id l.toArray true).wp P Q a W := by
 have hpos : 0 < l.length := by
  unfold flowROk at hok
  simp only [Bool.and_eq_true, decide_eq_true_eq] at hok
  exact hok.1.2
 have hlz : (Array.replicate l.toArray.size false).getD (l.length - 1) true = false := by
  have : l.length - 1 < l.length := by omega
  simp [this]
 refine wp_region_any hm ?_
 refine flowR_any hok h _ (List.range l.length) _ (fun _ => undef) _ _ (by simp) (fun i hi _ => by simpa using hi) (by simp) hlz (fun k j hk hkl _ => by simp [hk] at hkl) ?_ (fun i hi hL => ?_) (Below.drew (Below.refl _ _))
 ·refine ⟨rfl, rfl, fun i o d hi hd hL => ?_, fun t _ => rfl⟩
  have hlt := (List.getElem?_eq_some_iff.1 hi).1
  simp [hlt] at hL
 ·simp [hi] at hL
end
end Go.Proofs.YtieaicdihingkaaGreat
