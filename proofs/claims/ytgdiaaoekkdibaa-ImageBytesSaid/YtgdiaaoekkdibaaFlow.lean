/- A region that draws its order, each of whose operations yields the same value in every world of a kind: walked once, in the order of the text. -/
import Derived.WalkKit
import Derived.Orders
namespace Go.Proofs.Ytgdiaaoekkdibaa
open Go
set_option linter.unusedVariables false
set_option linter.unnecessarySimpa false
section
variable {P : Program} {Q : Exit → Act → World → Prop} {S : World → Prop}
/-- One operation, run at 'a' in any world of the kind, leaves 'v' and a world of the kind. -/
def FlowAt (P : Program) (ops : Array Oper) (Q : Exit → Act → World → Prop) (S : World → Prop) (o : Oper) (v : Value) (a : Act) : Prop :=
  ∀ (w : World) (K : Act → World → Prop), S w → (∀ w', S w' → K (a.put o.dst v) w') → if Region.wanted o (yielded ops a.tmps) = true then Oper.wp P o a w K Q else K (a.put o.dst undef) w
def Flow (P : Program) (ops : Array Oper) (Q : Exit → Act → World → Prop) (S : World → Prop) : List Oper → Act → Prop
  | [], a => ∀ w, S w → Q .normal a w
  | o :: rest, a => ∃ v, FlowAt P ops (fun _ _ _ => False) S o v a ∧ Flow P ops Q S rest (a.put o.dst v)
/-- What the order of the text must bear. -/
def flowOk (ops : List Oper) : Bool :=
  (List.range ops.length).all fun i => match ops[i]? with
    | none => true
    | some o =>
      (match o.op with | .select .. => false | _ => true) && (o.after.all fun e => !Region.binds .any e || decide (e.on < i)) &&
      (List.range ops.length).all fun j => match ops[j]? with
        | none => true
        | some p => match p.dst with
          | none => true
          | some t => (!(o.looksAt ops.toArray).contains t || (o.after.any fun e => Region.binds .any e && e.on == j)) && (i == j || o.dst != some t)
theorem flowOk_spec {ops : List Oper} (h : flowOk ops = true) (i : Nat) (o : Oper) (hi : ops[i]? = some o) :
    (∀ cs b, o.op ≠ .select cs b) ∧ (∀ e ∈ o.after, Region.binds .any e = true → e.on < i) ∧
    (∀ j p t, ops[j]? = some p → p.dst = some t → (t ∈ o.looksAt ops.toArray → ∃ e ∈ o.after, Region.binds .any e = true ∧ e.on = j) ∧ (i ≠ j → o.dst ≠ some t)) := by
  unfold flowOk at h
  have hlt := (List.getElem?_eq_some_iff.1 hi).1
  have h1 := (List.all_eq_true.1 h) i (List.mem_range.2 hlt)
  simp only [hi, Bool.and_eq_true] at h1
  obtain ⟨⟨h2, h3⟩, h4⟩ := h1
  refine ⟨fun cs b e => by rw [e] at h2; simp at h2, fun e he hb => ?_, fun j p t hj ht => ?_⟩
  · have := (Array.all_eq_true_iff_forall_mem.1 h3) e he
    simpa [hb] using this
  · have := (List.all_eq_true.1 h4) j (List.mem_range.2 (List.getElem?_eq_some_iff.1 hj).1)
    simp only [hj, ht, Bool.and_eq_true, Bool.or_eq_true, Bool.not_eq_true'] at this
    obtain ⟨h5, h6⟩ := this
    refine ⟨fun hm => ?_, fun hne hd => ?_⟩
    · rcases h5 with h5 | h5
      · have : (o.looksAt ops.toArray).contains t = true := by simpa using hm
        rw [this] at h5; cases h5
      · obtain ⟨k, hk, hk2⟩ := Array.any_eq_true.1 h5
        simp only [Bool.and_eq_true, beq_iff_eq] at hk2
        exact ⟨o.after[k], Array.getElem_mem hk, hk2.1, hk2.2⟩
    · rcases h6 with h6 | h6
      · exact hne (by simpa using h6)
      · rw [hd] at h6; simp at h6
/-- The states of the order of the text. -/
def seqA (l : List Oper) (V : Nat → Value) (a : Act) : Nat → Act
  | 0 => a
  | i + 1 => (seqA l V a i).put ((l[i]?).bind (·.dst)) (V i)
theorem seqA_cons (o : Oper) (l : List Oper) (V : Nat → Value) (v : Value) (a : Act) : ∀ i, seqA (o :: l) (fun | 0 => v | i + 1 => V i) a (i + 1) = seqA l V (a.put o.dst v) i
  | 0 => rfl
  | i + 1 => by
    show (seqA (o :: l) (fun | 0 => v | i + 1 => V i) a (i + 1)).put _ _ = _
    rw [seqA_cons o l V v a i]
    rfl
theorem flow_open {ops : Array Oper} : ∀ (l : List Oper) (a : Act), Flow P ops Q S l a → ∃ V : Nat → Value, (∀ i o, l[i]? = some o → FlowAt P ops (fun _ _ _ => False) S o (V i) (seqA l V a i)) ∧ ∀ w, S w → Q .normal (seqA l V a l.length) w
  | [], a, h => ⟨fun _ => undef, fun i o hi => by simp at hi, h⟩
  | o :: l, a, ⟨v, h1, h2⟩ => by
    obtain ⟨V, h3, h4⟩ := flow_open l _ h2
    refine ⟨fun | 0 => v | i + 1 => V i, fun i p hi => ?_, fun w hS => ?_⟩
    · cases i with
      | zero => simp at hi; subst hi; exact h1
      | succ i => rw [seqA_cons]; exact h3 i p (by simpa using hi)
    · rw [List.length_cons, seqA_cons]; exact h4 w hS
/-- A state in which just the operations of L have come up. -/
structure Agr (l : List Oper) (V : Nat → Value) (a0 : Act) (L : Nat → Prop) (a : Act) : Prop where
  defers : a.defers = a0.defers
  size : a.tmps.size = a0.tmps.size
  there : ∀ i o d, l[i]? = some o → o.dst = some d → L i → a.tmps[d]? = if d < a0.tmps.size then some (V i) else none
  free : ∀ t, (∀ i o, l[i]? = some o → L i → o.dst ≠ some t) → a.tmps[t]? = a0.tmps[t]?
theorem put_at (a : Act) (d t : Nat) (v : Value) : (a.put (some d) v).tmps[t]? = if d = t then (if d < a.tmps.size then some v else none) else a.tmps[t]? := by
  simp only [Act.put, Array.getElem?_setIfInBounds]
theorem Agr.put {l : List Oper} {V : Nat → Value} {a0 a : Act} {L : Nat → Prop} (h : Agr l V a0 L a) {i : Nat} {o : Oper} (hi : l[i]? = some o)
    (hd : ∀ j p t, l[j]? = some p → p.dst = some t → i ≠ j → o.dst ≠ some t) : Agr l V a0 (fun j => L j ∨ j = i) (a.put o.dst (V i)) := by
  cases ho : o.dst with
  | none =>
    refine ⟨h.defers, h.size, fun j p d hj hp hL => ?_, fun t ht => h.free t fun j p hj hL => ht j p hj (.inl hL)⟩
    rcases hL with hL | rfl
    · exact h.there j p d hj hp hL
    · rw [hi] at hj; cases hj; rw [ho] at hp; cases hp
  | some e =>
    refine ⟨h.defers, by simpa [Act.put] using h.size, fun j p d hj hp hL => ?_, fun t ht => ?_⟩
    · rw [put_at]
      by_cases hij : i = j
      · subst hij
        rw [hi] at hj; cases hj
        rw [ho] at hp; cases hp
        rw [if_pos rfl, h.size]
      · have : e ≠ d := fun he => hd j p d hj hp hij (by rw [ho, he])
        rw [if_neg this]
        exact h.there j p d hj hp (hL.resolve_right (fun e => hij e.symm))
    · have : e ≠ t := fun he => ht i o hi (.inr rfl) (by rw [ho, he])
      rw [put_at, if_neg this]
      exact h.free t fun j p hj hL => ht j p hj (.inl hL)
theorem Agr.eq_at {l : List Oper} {V : Nat → Value} {a0 a b : Act} {L M : Nat → Prop} (h : Agr l V a0 L a) (k : Agr l V a0 M b) (t : Nat)
    (ht : ∀ j p, l[j]? = some p → p.dst = some t → L j ∧ M j) : a.tmps[t]? = b.tmps[t]? := by
  by_cases he : ∃ (j : Nat) (p : Oper), l[j]? = some p ∧ p.dst = some t
  · obtain ⟨j, p, hj, hp⟩ := he
    rw [h.there j p t hj hp (ht j p hj hp).1, k.there j p t hj hp (ht j p hj hp).2]
  · rw [h.free t fun i o hi _ e => he ⟨i, o, hi, e⟩, k.free t fun i o hi _ e => he ⟨i, o, hi, e⟩]
theorem agr_seq {l : List Oper} (hok : flowOk l = true) (V : Nat → Value) (a0 : Act) : ∀ k, k ≤ l.length → Agr l V a0 (· < k) (seqA l V a0 k)
  | 0, _ => ⟨rfl, rfl, fun i o d _ _ h => absurd h (Nat.not_lt_zero _), fun t _ => rfl⟩
  | k + 1, hk => by
    have hi : l[k]? = some l[k] := List.getElem?_eq_getElem (by omega)
    have := (agr_seq hok V a0 k (by omega)).put hi (fun j p t hj hp hne => ((flowOk_spec hok k _ hi).2.2 j p t hj hp).2 hne)
    have e : seqA l V a0 (k + 1) = (seqA l V a0 k).put (l[k]).dst (V k) := by
      show (seqA l V a0 k).put _ _ = _
      rw [hi]; rfl
    rw [e]
    have el : (fun j => j < k ∨ j = k) = (fun j => j < k + 1) := funext fun j => propext (by omega)
    rw [el] at this
    exact this
theorem act_ext {a b : Act} (h1 : a.defers = b.defers) (h2 : ∀ t : Nat, a.tmps[t]? = b.tmps[t]?) : a = b := by
  cases a; cases b
  simp only at h1 h2
  subst h1
  congr 1
  exact Array.ext_getElem? h2
theorem put_inj {a b : Act} {d : Option Tmp} {u v : Value} (h : a.put d u = a.put d v) (hs : b.tmps.size = a.tmps.size) : b.put d u = b.put d v := by
  cases d with
  | none => rfl
  | some d =>
    by_cases hd : d < a.tmps.size
    · have : (a.put (some d) u).tmps[d]? = (a.put (some d) v).tmps[d]? := by rw [h]
      rw [put_at, put_at, if_pos rfl, if_pos rfl, if_pos hd, if_pos hd] at this
      cases this; rfl
    · refine act_ext rfl fun t => ?_
      rw [put_at, put_at]
      split
      · rw [if_neg (by rw [hs]; exact hd), if_neg (by rw [hs]; exact hd)]
      · rfl
/-- An operation's law at one state serves at another that it can't tell from it. -/
theorem FlowAt.at {ops : Array Oper} {o : Oper} {v : Value} {a b : Act} (h : FlowAt P ops (fun _ _ _ => False) S o v a) (hd : b.defers = a.defers) (hs : b.tmps.size = a.tmps.size)
    (he : execOp b.eval o = execOp a.eval o) (hw : Region.wanted o (yielded ops b.tmps) = Region.wanted o (yielded ops a.tmps)) {i : Nat} (hi : ops[i]? = some o)
    {K : Act → World → Prop} {w : World} (hS : S w) (hK : ∀ w', S w' → K (b.put o.dst v) w') : wpOp P ops Q i K b w := by
  have := h w (fun a' w' => a' = a.put o.dst v ∧ S w') hS (fun w' hS' => ⟨rfl, hS'⟩)
  unfold wpOp
  simp only [hi, hw]
  split
  · rename_i hwn
    rw [if_pos hwn] at this
    refine .inl ?_
    unfold Oper.wp at *
    rw [he]
    have go : ∀ u w', (a.put o.dst u = a.put o.dst v ∧ S w') → K (b.put o.dst u) w' := fun u w' ⟨e, hS'⟩ => by rw [put_inj e hs]; exact hK w' hS'
    generalize (execOp a.eval o).run P w = r at *
    cases r with
    | ok n w' =>
      cases n <;> simp only [Oper.upon] at this ⊢
      case value u => exact go _ _ this
      case skip => exact go _ _ this
      case defer d =>
        exfalso
        have h1 := congrArg Act.defers this.1
        cases ho : o.dst <;> simp [ho, Act.put] at h1
      case enter f args =>
        refine Calls.mono this fun e w'' he => ?_
        cases e with
        | returned u => exact go _ _ he
        | panicked c => exact he.elim
        | outgrown => obtain ⟨_, _, hF⟩ := he; exact hF.elim
      case row row args => exact Rows.mono this fun u w'' he => go _ _ he
    | halt x w' =>
      cases x <;> simp only [Oper.upon] at this ⊢
  · rename_i hwn
    rw [if_neg hwn] at this
    obtain ⟨e, hS'⟩ := this
    rw [put_inj e hs]
    exact hK w hS'
theorem unready {ops : Array Oper} {listed : Array Bool} (hok : flowOk ops.toList = true) (hsz : listed.size = ops.size) (hr : Region.ready .any ops listed = []) : ∀ n i, i ≤ n → i < ops.size → listed.getD i true = true := by
  intro n
  induction n with
  | zero =>
    intro i hin hi
    obtain rfl : i = 0 := by omega
    refine Classical.byContradiction fun hne => ?_
    have ho : ops[0]? = some ops[0] := Array.getElem?_eq_getElem hi
    have : 0 ∈ Region.ready .any ops listed := mem_ready.2 ⟨by simpa using hne, ops[0], ho, fun e he hb => by
      have := (flowOk_spec hok 0 ops[0] (by simpa using ho)).2.1 e he hb
      omega⟩
    rw [hr] at this
    cases this
  | succ n ih =>
    intro i hin hi
    by_cases hlt : i ≤ n
    · exact ih i hlt hi
    refine Classical.byContradiction fun hne => ?_
    have ho : ops[i]? = some ops[i] := Array.getElem?_eq_getElem hi
    have : i ∈ Region.ready .any ops listed := mem_ready.2 ⟨by simpa using hne, ops[i], ho, fun e he hb => by
      have h1 := (flowOk_spec hok i ops[i] (by simpa using ho)).2.1 e he hb
      have h2 := ih e.on (by omega) (by omega)
      have h3 : e.on < listed.size := by omega
      simpa [h3] using h2⟩
    rw [hr] at this
    cases this
theorem flow_any {ops : Array Oper} (hok : flowOk ops.toList = true) {V : Nat → Value} {a0 : Act}
    (hstep : ∀ i o, ops.toList[i]? = some o → FlowAt P ops (fun _ _ _ => False) S o (V i) (seqA ops.toList V a0 i)) (hend : ∀ w, S w → Q .normal (seqA ops.toList V a0 ops.toList.length) w) :
    ∀ (fuel : Nat) (rs : List Nat) (listed : Array Bool) (a : Act) (w : World), rs.length ≤ fuel → (∀ i, i < ops.size → listed.getD i true = false → i ∈ rs) → listed.size = ops.size →
      Agr ops.toList V a0 (fun i => listed.getD i true = true) a → S w → wpAny P .any ops Q fuel listed a w := by
  have fin : ∀ (listed : Array Bool) (a : Act) (w : World), (∀ i, i < ops.size → listed.getD i true = true) → Agr ops.toList V a0 (fun i => listed.getD i true = true) a → S w → Q .normal a w := by
    intro listed a w hall hag hS
    have h1 := agr_seq hok V a0 ops.toList.length (Nat.le_refl _)
    have : a = seqA ops.toList V a0 ops.toList.length := act_ext (hag.defers.trans h1.defers.symm) fun t => hag.eq_at h1 t fun j p hj hp => by
      have hj' := (List.getElem?_eq_some_iff.1 hj).1
      exact ⟨hall j (by simpa using hj'), hj'⟩
    rw [this]
    exact hend w hS
  intro fuel
  induction fuel with
  | zero =>
    intro rs listed a w hlen hrs hsz hag hS
    have hall : ∀ i, i < ops.size → listed.getD i true = true := fun i hi => by
      refine Classical.byContradiction fun hne => ?_
      have := hrs i hi (by simpa using hne)
      have : rs = [] := List.length_eq_zero_iff.1 (by omega)
      simp_all
    refine ⟨?_, fin listed a w hall hag hS⟩
    cases hr : Region.ready .any ops listed with
    | nil => rfl
    | cons x xs =>
      have hx : x ∈ Region.ready .any ops listed := by rw [hr]; exact List.mem_cons_self ..
      obtain ⟨h0, o, ho, _⟩ := mem_ready.1 hx
      have := hall x (Array.getElem?_eq_some_iff.1 ho).1
      rw [h0] at this
      cases this
  | succ fuel ih =>
    intro rs listed a w hlen hrs hsz hag hS
    refine ⟨fun hr => fin listed a w (fun i hi => unready hok hsz hr i i (Nat.le_refl _) hi) hag hS, fun i hi => ?_⟩
    obtain ⟨h0, o, ho, hall⟩ := mem_ready.1 hi
    have hlt := (Array.getElem?_eq_some_iff.1 ho).1
    have ho' : ops.toList[i]? = some o := by simpa using ho
    have spec := flowOk_spec hok i o ho'
    have hseq := agr_seq hok V a0 i (by simp; omega)
    have hlook : ∀ t, t ∈ o.looksAt ops → a.tmps[t]? = (seqA ops.toList V a0 i).tmps[t]? := fun t ht => hag.eq_at hseq t fun j p hj hp => by
      obtain ⟨e, he, hb, rfl⟩ := (spec.2.2 j p t hj hp).1 (by simpa using ht)
      have hj' := (List.getElem?_eq_some_iff.1 hj).1
      have h2 := hall e he hb
      have h3 : e.on < listed.size := by rw [hsz]; simpa using hj'
      exact ⟨by simpa [h3] using h2, spec.2.1 e he hb⟩
    have hev : ∀ x ∈ o.op.operands, a.eval x = (seqA ops.toList V a0 i).eval x := fun x hx => by
      cases x with
      | tmp t =>
        have := hlook t (List.mem_append_left _ (List.mem_filterMap.2 ⟨.tmp t, by simpa using hx, rfl⟩))
        simp only [Act.eval, Array.getD_eq_getD_getElem?, this]
      | _ => rfl
    refine (hstep i o ho').at (hag.defers.trans hseq.defers.symm) (hag.size.trans hseq.size.symm) (execOp_congr o spec.1 hev) ?_ ho hS fun w' hS' => ?_
    · unfold Region.wanted
      cases hg : o.guard with
      | none => rfl
      | some gw =>
        obtain ⟨g, want⟩ := gw
        simp only []
        have : yielded ops a.tmps g = yielded ops (seqA ops.toList V a0 i).tmps g := by
          unfold yielded
          cases ht : (ops[g]?).bind (·.dst) with
          | none => rfl
          | some t => simp only [Option.bind_some, hlook t (by simp [Oper.looksAt, hg, ht])]
        rw [this]
    · have hmem := hrs i hlt h0
      refine ih (rs.erase i) _ _ _ (by have := List.length_erase_of_mem hmem; have := List.length_pos_of_mem hmem; omega) (fun j hj hjl => ?_) (by simpa using hsz) ?_ hS'
      · by_cases hij : i = j
        · subst hij
          have : i < listed.size := by omega
          simp [this] at hjl
        · rw [getD_set_ne true hij] at hjl
          exact (List.mem_erase_of_ne (Ne.symm hij)).2 (hrs j hj hjl)
      · have := hag.put ho' (fun j p t hj hp hne => (spec.2.2 j p t hj hp).2 hne)
        have el : (fun j => listed.getD j true = true ∨ j = i) = (fun j => (listed.setIfInBounds i true).getD j true = true) := funext fun j => propext (by
          by_cases hij : i = j
          · subst hij
            have : i < listed.size := by omega
            simp [this]
          · rw [getD_set_ne true hij]; simp [Ne.symm hij])
        rw [el] at this
        exact this
/-- **The region**, from its walk in the order of the text. -/
theorem wp_region_flow {id : Nat} {l : List Oper} {a : Act} {w : World} (hm : P.follows .mixedOrders = true) (hok : flowOk l = true) (hS : S w.drew)
    (h : Flow P l.toArray Q S l a) : (Code.region id l.toArray true).wp P Q a w := by
  obtain ⟨V, h1, h2⟩ := flow_open l a h
  refine wp_region_any hm ?_
  refine flow_any (ops := l.toArray) (by simpa using hok) (V := V) (a0 := a) (by simpa using h1) (by simpa using h2) _ (List.range l.length) _ _ _ (by simp) (fun i hi _ => by simpa using hi) (by simp) ?_ hS
  refine ⟨rfl, rfl, fun i o d hi hd hL => ?_, fun t _ => rfl⟩
  have hlt := (List.getElem?_eq_some_iff.1 hi).1
  simp [hlt] at hL
theorem Flow.step {ops : Array Oper} {o : Oper} {rest : List Oper} {a : Act} (v : Value)
    (h1 : ∀ (w : World) (K : Act → World → Prop), S w → (∀ w', S w' → K (a.put o.dst v) w') → if Region.wanted o (yielded ops a.tmps) = true then Oper.wp P o a w K (fun _ _ _ => False) else K (a.put o.dst undef) w)
    (h2 : Flow P ops Q S rest (a.put o.dst v)) : Flow P ops Q S (o :: rest) a := ⟨v, h1, h2⟩
theorem Flow.done {ops : Array Oper} {a : Act} (h : ∀ w, S w → Q .normal a w) : Flow P ops Q S [] a := h
end
end Go.Proofs.Ytgdiaaoekkdibaa
