/- A region that draws its order, with one call that may write or panic: the other operations only read, the last one comes behind all. -/
import Derived.Test.YtieaicdihingkaaGreatFlow
namespace Go.Proofs.YtieaicdihingkaaGreat
open Go Go.RowKit
set_option linter.unusedVariables false
set_option linter.unusedSimpArgs false
section
variable {P : Program} {Q : Exit → Act → World → Prop} {S0 S1 : World → Prop} {Z : List PanicEntry → World → Prop}
def QpZ (Z : List PanicEntry → World → Prop) : Exit → Act → World → Prop := fun e _ w => ∃ chain, e = .panic chain ∧ Z chain w
/-- An operation that leaves the world as it is. -/
def StepP (P : Program) (ops : Array Oper) (S : World → Prop) (o : Oper) (v : Value) (a : Act) : Prop :=
 ∀ (w : World) (K : Act → World → Prop), S w → K (a.put o.dst v) w → if Region.wanted o (yielded ops a.tmps) = true then Oper.wp P o a w K (fun _ _ _ => False) else K (a.put o.dst undef) w
/-- The call. -/
def CallP (P : Program) (ops : Array Oper) (Z : List PanicEntry → World → Prop) (S0 S1 : World → Prop) (o : Oper) (v : Value) (a : Act) : Prop :=
 Region.wanted o (yielded ops a.tmps) = true ∧ ∀ (w : World) (K : Act → World → Prop), S0 w → (∀ w', S1 w' → K (a.put o.dst v) w') → Oper.wp P o a w K (QpZ Z)
/-- The last operation. -/
def LastP (P : Program) (ops : Array Oper) (Q : Exit → Act → World → Prop) (S1 : World → Prop) (o : Oper) (a : Act) : Prop :=
 ∀ (w : World) (K : Act → World → Prop), S1 w → (∀ a' w', Q .normal a' w' → K a' w') → if Region.wanted o (yielded ops a.tmps) = true then Oper.wp P o a w K Q else K (a.put o.dst undef) w
def FlowW (P : Program) (ops : Array Oper) (Q : Exit → Act → World → Prop) (Z : List PanicEntry → World → Prop) (S0 S1 : World → Prop) : List Oper → Option Nat → Act → Prop
 | [], _, _ => False
 | o :: rest, j, a => match rest, j with
  | [], none => LastP P ops Q S1 o a
  | [], some _ => False
  | _ :: _, some 0 => ∃ v, CallP P ops Z S0 S1 o v a ∧ FlowW P ops Q Z S0 S1 rest none (a.put o.dst v)
  | _ :: _, some (k + 1) => ∃ v, StepP P ops (fun w => S0 w ∨ S1 w) o v a ∧ FlowW P ops Q Z S0 S1 rest (some k) (a.put o.dst v)
  | _ :: _, none => ∃ v, StepP P ops (fun w => S0 w ∨ S1 w) o v a ∧ FlowW P ops Q Z S0 S1 rest none (a.put o.dst v)
theorem FlowW.step {ops : Array Oper} {o o2 : Oper} {rest : List Oper} {a : Act} {k : Nat} (v : Value)
  (h1 : ∀ (w : World) (K : Act → World → Prop), (S0 w ∨ S1 w) → K (a.put o.dst v) w → if Region.wanted o (yielded ops a.tmps) = true then Oper.wp P o a w K (fun _ _ _ => False) else K (a.put o.dst undef) w)
  (h2 : FlowW P ops Q Z S0 S1 (o2 :: rest) (some k) (a.put o.dst v)) : FlowW P ops Q Z S0 S1 (o :: o2 :: rest) (some (k + 1)) a := ⟨v, h1, h2⟩
theorem FlowW.after {ops : Array Oper} {o o2 : Oper} {rest : List Oper} {a : Act} (v : Value)
  (h1 : ∀ (w : World) (K : Act → World → Prop), (S0 w ∨ S1 w) → K (a.put o.dst v) w → if Region.wanted o (yielded ops a.tmps) = true then Oper.wp P o a w K (fun _ _ _ => False) else K (a.put o.dst undef) w)
  (h2 : FlowW P ops Q Z S0 S1 (o2 :: rest) none (a.put o.dst v)) : FlowW P ops Q Z S0 S1 (o :: o2 :: rest) none a := ⟨v, h1, h2⟩
theorem FlowW.call {ops : Array Oper} {o o2 : Oper} {rest : List Oper} {a : Act} (v : Value) (hw : Region.wanted o (yielded ops a.tmps) = true)
  (h1 : ∀ (w : World) (K : Act → World → Prop), S0 w → (∀ w', S1 w' → K (a.put o.dst v) w') → Oper.wp P o a w K (QpZ Z))
  (h2 : FlowW P ops Q Z S0 S1 (o2 :: rest) none (a.put o.dst v)) : FlowW P ops Q Z S0 S1 (o :: o2 :: rest) (some 0) a := ⟨v, ⟨hw, h1⟩, h2⟩
theorem FlowW.last {ops : Array Oper} {o : Oper} {a : Act}
  (h : ∀ (w : World) (K : Act → World → Prop), S1 w → (∀ a' w', Q .normal a' w' → K a' w') → if Region.wanted o (yielded ops a.tmps) = true then Oper.wp P o a w K Q else K (a.put o.dst undef) w) : FlowW P ops Q Z S0 S1 [o] none a := h
def consV (v : Value) (V : Nat → Value) : Nat → Value
 | 0 => v
 | i + 1 => V i
theorem seqA_consV (o : Oper) (l : List Oper) (V : Nat → Value) (v : Value) (a : Act) : ∀ i, seqA (o :: l) (consV v V) a (i + 1) = seqA l V (a.put o.dst v) i
 | 0 => rfl
 | i + 1 => by
  show (seqA (o :: l) (consV v V) a (i + 1)).put _ _ = _
  rw [seqA_consV o l V v a i]
  rfl
theorem flowW_open {ops : Array Oper} : ∀ (l : List Oper) (jo : Option Nat) (a : Act), FlowW P ops Q Z S0 S1 l jo a → ∃ V : Nat → Value,
  (∀ i o, l[i]? = some o → some i ≠ jo → i + 1 ≠ l.length → StepP P ops (fun w => S0 w ∨ S1 w) o (V i) (seqA l V a i)) ∧
  (∀ i o, l[i]? = some o → some i = jo → CallP P ops Z S0 S1 o (V i) (seqA l V a i)) ∧ (∀ i, jo = some i → i + 1 < l.length) ∧
  (∀ i o, l[i]? = some o → i + 1 = l.length → LastP P ops Q S1 o (seqA l V a i))
 | [], _, _, h => h.elim
 | [o], none, a, h => ⟨fun _ => undef, fun i p hi _ hl => by cases i <;> simp at hi hl, fun i p _ e => by simp at e, fun i e => by simp at e, fun i p hi hl => by
   cases i with
   | zero => simp at hi; subst hi; exact h
   | succ i => simp at hi⟩
 | [o], some _, a, h => h.elim
 | o :: o2 :: rest, some 0, a, ⟨v, h1, h2⟩ => by
  obtain ⟨V, g1, g2, g3, g4⟩ := flowW_open (o2 :: rest) none _ h2
  refine ⟨consV v V, fun i p hi hne hl => ?_, fun i p hi e => ?_, fun i e => ?_, fun i p hi hl => ?_⟩
  ·cases i with
   | zero => exact absurd rfl hne
   | succ i => rw [seqA_consV]; exact g1 i p (by simpa using hi) (by simp) (by simpa using hl)
  ·simp at e; subst e; simp at hi; subst hi; exact h1
  ·simp at e; subst e; simp
  ·cases i with
   | zero => simp at hl
   | succ i => rw [seqA_consV]; exact g4 i p (by simpa using hi) (by simpa using hl)
 | o :: o2 :: rest, some (k + 1), a, ⟨v, h1, h2⟩ => by
  obtain ⟨V, g1, g2, g3, g4⟩ := flowW_open (o2 :: rest) (some k) _ h2
  refine ⟨consV v V, fun i p hi hne hl => ?_, fun i p hi e => ?_, fun i e => ?_, fun i p hi hl => ?_⟩
  ·cases i with
   | zero => simp at hi; subst hi; exact h1
   | succ i => rw [seqA_consV]; exact g1 i p (by simpa using hi) (by simpa using hne) (by simpa using hl)
  ·cases i with
   | zero => simp at e
   | succ i => rw [seqA_consV]; exact g2 i p (by simpa using hi) (by simpa using e)
  ·simp at e; subst e; have := g3 k rfl; simp at this ⊢; omega
  ·cases i with
   | zero => simp at hl
   | succ i => rw [seqA_consV]; exact g4 i p (by simpa using hi) (by simpa using hl)
 | o :: o2 :: rest, none, a, ⟨v, h1, h2⟩ => by
  obtain ⟨V, g1, g2, g3, g4⟩ := flowW_open (o2 :: rest) none _ h2
  refine ⟨consV v V, fun i p hi hne hl => ?_, fun i p hi e => by simp at e, fun i e => by simp at e, fun i p hi hl => ?_⟩
  ·cases i with
   | zero => simp at hi; subst hi; exact h1
   | succ i => rw [seqA_consV]; exact g1 i p (by simpa using hi) (by simp) (by simpa using hl)
  ·cases i with
   | zero => simp at hl
   | succ i => rw [seqA_consV]; exact g4 i p (by simpa using hi) (by simpa using hl)
/-- The last operation waits for all others. -/
def lastOk (l : List Oper) : Bool := (List.range (l.length - 1)).all fun j => (closeB l 9 [l.length - 1]).contains j
theorem lastOk_spec {l : List Oper} (h : lastOk l = true) {i : Nat} (hl : i + 1 = l.length) : ∀ j, j < i → j ∈ closeB l 9 [i] := by
 unfold lastOk at h
 intro j hj
 have := (List.all_eq_true.1 h) j (List.mem_range.2 (by omega))
 rw [show l.length - 1 = i by omega] at this
 simpa using this
theorem CallP.at {ops : Array Oper} {o : Oper} {v : Value} {a b : Act} (h : CallP P ops Z S0 S1 o v a) (hd : b.defers = a.defers) (hs : b.tmps.size = a.tmps.size)
  (he : execOp b.eval o = execOp a.eval o) (hw : Region.wanted o (yielded ops b.tmps) = Region.wanted o (yielded ops a.tmps)) {i : Nat} (hi : ops[i]? = some o)
  (hZ : ∀ chain w', Z chain w' → Q (.panic chain) b w') {K : Act → World → Prop} {w : World} (hS : S0 w) (hK : ∀ w', S1 w' → K (b.put o.dst v) w') : wpOp P ops Q i K b w := by
 have := h.2 w (fun a' w' => a' = a.put o.dst v ∧ S1 w') hS (fun w' hS' => ⟨rfl, hS'⟩)
 have hwt := h.1
 unfold wpOp
 simp only [hi, hw, hwt, if_true]
 refine .inl ?_
 unfold Oper.wp at *
 rw [he]
 have go : ∀ u w', (a.put o.dst u = a.put o.dst v ∧ S1 w') → K (b.put o.dst u) w' := fun u w' ⟨e, hS'⟩ => by rw [put_inj e hs]; exact hK w' hS'
 generalize (execOp a.eval o).run P w = r at *
 cases r with
 | ok n w' =>
  cases n <;> simp only [Oper.upon] at this ⊢
  case value u => exact go _ _ this
  case skip => exact go _ _ this
  case defer d =>
   exfalso
   have h1 := congrArg Act.defers this.1
   cases ho : o.dst <;> simp [ho, Act.put] at h1
  case enter f args =>
   refine Calls.mono this fun e w'' he => ?_
   cases e with
   | returned u => exact go _ _ he
   | panicked c =>
    obtain ⟨chain, e, hz⟩ := he
    cases e
    exact hZ _ _ hz
   | outgrown => obtain ⟨_, _, chain, e, _⟩ := he; cases e
  case row row args => exact Rows.mono this fun u w'' he => go _ _ he
 | halt x w' =>
  cases x <;> simp only [Oper.upon] at this ⊢
  case panic v =>
   obtain ⟨chain, e, hz⟩ := this
   cases e
   exact hZ _ _ hz
  all_goals first | exact this | (obtain ⟨chain, e, hz⟩ := this; cases e) | skip
theorem flowW_any {ops : Array Oper} (hok : flowOk ops.toList = true) (hlk : lastOk ops.toList = true) {V : Nat → Value} {a0 : Act} {j : Nat}
  (hstep : ∀ i o, ops.toList[i]? = some o → some i ≠ some j → i + 1 ≠ ops.toList.length → StepP P ops (fun w => S0 w ∨ S1 w) o (V i) (seqA ops.toList V a0 i))
  (hcall : ∀ i o, ops.toList[i]? = some o → some i = some j → CallP P ops Z S0 S1 o (V i) (seqA ops.toList V a0 i)) (hj : j + 1 < ops.toList.length)
  (hend : ∀ i o, ops.toList[i]? = some o → i + 1 = ops.toList.length → LastP P ops Q S1 o (seqA ops.toList V a0 i))
  (hZ : ∀ chain (b : Act) w', b.defers = a0.defers → Z chain w' → Q (.panic chain) b w') :
  ∀ (fuel : Nat) (rs : List Nat) (listed : Array Bool) (a : Act) (w : World), rs.length ≤ fuel → (∀ i, i < ops.size → listed.getD i true = false → i ∈ rs) → listed.size = ops.size →
   listed.getD (ops.size - 1) true = false → (∀ k j, k < ops.toList.length → listed.getD k true = true → edgeB ops.toList k j = true → listed.getD j true = true) → Agr ops.toList V a0 (fun i => listed.getD i true = true) a → ((listed.getD j true = false ∧ S0 w) ∨ (listed.getD j true = true ∧ S1 w)) → wpAny P .any ops Q fuel listed a w := by
 have hsz0 : ops.toList.length = ops.size := by simp
 intro fuel
 induction fuel with
 | zero =>
  intro rs listed a w hlen hrs hsz hlast hdc hag hS
  have := hrs (ops.size - 1) (by omega) hlast
  have h0 : rs = [] := List.length_eq_zero_iff.1 (by omega)
  rw [h0] at this; cases this
 | succ fuel ih =>
  intro rs listed a w hlen hrs hsz hlast hdc hag hS
  refine ⟨fun hr => absurd (unready hok hsz hr (ops.size - 1) (ops.size - 1) (Nat.le_refl _) (by omega)) (by rw [hlast]; simp), fun i hi => ?_⟩
  obtain ⟨h0, o, ho, hall⟩ := mem_ready.1 hi
  have hlt := (Array.getElem?_eq_some_iff.1 ho).1
  have ho' : ops.toList[i]? = some o := by simpa using ho
  have spec := flowOk_spec hok i o ho'
  have hseq := agr_seq hok V a0 i (by simp; omega)
  have hlook : ∀ t, t ∈ o.looksAt ops → a.tmps[t]? = (seqA ops.toList V a0 i).tmps[t]? := fun t ht => hag.eq_at hseq t fun j p hj hp => by
   obtain ⟨e, he, hb, rfl⟩ := (spec.2.2 j p t hj hp).1 (by simpa using ht)
   have hj' := (List.getElem?_eq_some_iff.1 hj).1
   have h2 := hall e he hb
   have h3 : e.on < listed.size := by rw [hsz]; simpa using hj'
   exact ⟨by simpa [h3] using h2, spec.2.1 e he hb⟩
  have hev : ∀ x ∈ o.op.operands, a.eval x = (seqA ops.toList V a0 i).eval x := fun x hx => by
   cases x with
   | tmp t =>
    have := hlook t (List.mem_append_left _ (List.mem_filterMap.2 ⟨.tmp t, by simpa using hx, rfl⟩))
    simp only [Act.eval, Array.getD_eq_getD_getElem?, this]
   | _ => rfl
  have hwn : Region.wanted o (yielded ops a.tmps) = Region.wanted o (yielded ops (seqA ops.toList V a0 i).tmps) := by
   unfold Region.wanted
   cases hg : o.guard with
   | none => rfl
   | some gw =>
    obtain ⟨g, want⟩ := gw
    simp only []
    have : yielded ops a.tmps g = yielded ops (seqA ops.toList V a0 i).tmps g := by
     unfold yielded
     cases ht : (ops[g]?).bind (·.dst) with
     | none => rfl
     | some t => simp only [Option.bind_some, hlook t (by simp [Oper.looksAt, hg, ht])]
    rw [this]
  have hexec := execOp_congr o spec.1 hev
  have hmem := hrs i hlt h0
  have hag' : Agr ops.toList V a0 (fun k => (listed.setIfInBounds i true).getD k true = true) (a.put o.dst (V i)) := by
   have := hag.put ho' (fun j p t hj hp hne => (spec.2.2 j p t hj hp).2 hne)
   have el : (fun j => listed.getD j true = true ∨ j = i) = (fun j => (listed.setIfInBounds i true).getD j true = true) := funext fun j => propext (by
    by_cases hij : i = j
    ·subst hij
     have : i < listed.size := by omega
     simp [this]
    ·rw [getD_set_ne true hij]; simp [Ne.symm hij])
   rw [el] at this
   exact this
  have hrs' : ∀ k, k < ops.size → (listed.setIfInBounds i true).getD k true = false → k ∈ rs.erase i := fun k hk hkl => by
   by_cases hij : i = k
   ·subst hij
    have : i < listed.size := by omega
    simp [this] at hkl
   ·rw [getD_set_ne true hij] at hkl
    exact (List.mem_erase_of_ne (Ne.symm hij)).2 (hrs k hk hkl)
  have hlen' : (rs.erase i).length ≤ fuel := by have := List.length_erase_of_mem hmem; have := List.length_pos_of_mem hmem; omega
  have hon : ∀ j, (∃ e ∈ o.after, Region.binds .any e = true ∧ e.on = j) → listed.getD j true = true := fun j ⟨e, he, hb, hj⟩ => by
   subst hj
   have h2 := hall e he hb
   have h1 := spec.2.1 e he hb
   have h3 : e.on < listed.size := by omega
   simpa [h3] using h2
  have heq : ∀ j, (listed.setIfInBounds i true).getD j true = true ↔ (listed.getD j true = true ∨ j = i) := fun j => by
   by_cases hij : i = j
   ·subst hij
    have : i < listed.size := by omega
    simp [this]
   ·rw [getD_set_ne true hij]; simp [Ne.symm hij]
  have hei : ∀ j, edgeB ops.toList i j = true → listed.getD j true = true := fun j he => by
   unfold edgeB at he
   rw [ho'] at he
   obtain ⟨k, hk, hk2⟩ := Array.any_eq_true.1 he
   simp only [Bool.and_eq_true, beq_iff_eq] at hk2
   exact hon j ⟨o.after[k], Array.getElem_mem hk, hk2.1, hk2.2⟩
  have hdc' : ∀ k j, k < ops.toList.length → (listed.setIfInBounds i true).getD k true = true → edgeB ops.toList k j = true → (listed.setIfInBounds i true).getD j true = true := fun k j hk hkl he => (heq j).2 (.inl (by
   rcases (heq k).1 hkl with h1 | rfl
   ·exact hdc k j hk h1 he
   ·exact hei j he))
  have hcl : ∀ j, j ≠ i → j ∈ closeB ops.toList 9 [i] → listed.getD j true = true := fun j hj hm => by
   have := closeB_listed (l := ops.toList) (i := i) (G := fun j => listed.getD j true = true) hei (fun k hk j he => by
    by_cases hkl : k < ops.toList.length
    ·exact hdc k j hkl hk he
    ·unfold edgeB at he
     rw [List.getElem?_eq_none (by omega)] at he
     cases he) 9 [i] (fun k hk => .inl (by simpa using hk)) j hm
   exact this.resolve_left hj
  by_cases hl : i + 1 = ops.size
  ·-- the last operation: all others are listed
   have hothers : ∀ k, k < i → listed.getD k true = true := fun k hk => by
    exact hcl k (by omega) (lastOk_spec hlk (by rw [hsz0]; exact hl) k hk)
   have hS1 : S1 w := by
    rcases hS with ⟨h1, _⟩ | ⟨_, h2⟩
    ·rw [hothers j (by omega)] at h1; cases h1
    ·exact h2
   have ha : a = seqA ops.toList V a0 i := act_ext (hag.defers.trans hseq.defers.symm) fun t => by
    by_cases he : ∃ (k : Nat) (p : Oper), ops.toList[k]? = some p ∧ p.dst = some t ∧ k ≠ i
    ·obtain ⟨k, p, hk, hp, hki⟩ := he
     have hkl := (List.getElem?_eq_some_iff.1 hk).1
     have hk2 : k < i := by omega
     rw [hag.there k p t hk hp (hothers k hk2), hseq.there k p t hk hp hk2]
    ·rw [hag.free t fun k p hk hL hp => he ⟨k, p, hk, hp, fun e => by subst e; rw [h0] at hL; cases hL⟩, hseq.free t fun k p hk hL hp => he ⟨k, p, hk, hp, fun e => by subst e; exact absurd hL (Nat.lt_irrefl _)⟩]
   subst ha
   exact lastAt (fun K hK => hend i o ho' (by rw [hsz0]; exact hl) w K hS1 hK) ho (fun a' w' hq => by
    have hnil : Region.ready .any ops (listed.setIfInBounds i true) = [] := by
     cases hr : Region.ready .any ops (listed.setIfInBounds i true) with
     | nil => rfl
     | cons x xs =>
      exfalso
      have hx : x ∈ Region.ready .any ops (listed.setIfInBounds i true) := by rw [hr]; exact List.mem_cons_self ..
      obtain ⟨g0, p, gp, _⟩ := mem_ready.1 hx
      have gl := (Array.getElem?_eq_some_iff.1 gp).1
      by_cases e : i = x
      ·subst e
       have : i < listed.size := by omega
       simp [this] at g0
      ·rw [getD_set_ne true e, hothers x (by omega)] at g0
       cases g0
    cases fuel with
    | zero => exact ⟨hnil, hq⟩
    | succ fuel => exact ⟨fun _ => hq, fun k hk => by rw [hnil] at hk; cases hk⟩)
  ·by_cases hij : i = j
   ·subst hij
    have hS0 : S0 w := by
     rcases hS with ⟨_, h2⟩ | ⟨h1, _⟩
     ·exact h2
     ·rw [h0] at h1; cases h1
    refine (hcall i o ho' rfl).at (hag.defers.trans hseq.defers.symm) (hag.size.trans hseq.size.symm) hexec hwn ho (fun chain w' hz => hZ chain a w' hag.defers hz) hS0 fun w' hS' => ?_
    refine ih (rs.erase i) _ _ _ hlen' hrs' (by simpa using hsz) ?_ hdc' hag' (.inr ⟨?_, hS'⟩)
    ·rw [getD_set_ne true (by omega)]; exact hlast
    ·have : i < listed.size := by omega
     simp [this]
   ·have hst := hstep i o ho' (by simpa using hij) (by rw [hsz0]; exact hl)
    refine relatedAt (G := fun v w' => v = V i ∧ w' = w) (a := seqA ops.toList V a0 i) (fun K hK => hst w K (hS.elim (fun h => .inl h.2) (fun h => .inr h.2)) (hK _ _ ⟨rfl, rfl⟩)) (hag.defers.trans hseq.defers.symm) (hag.size.trans hseq.size.symm) hexec hwn ho ?_
    rintro v w' ⟨rfl, rfl⟩
    refine ih (rs.erase i) _ _ _ hlen' hrs' (by simpa using hsz) ?_ hdc' hag' ?_
    ·rw [getD_set_ne true (by omega)]; exact hlast
    ·rw [getD_set_ne true hij]; exact hS
/-- **The region**: its walk in the order of the text. -/
theorem wp_region_flowW {id : Nat} {l : List Oper} {a : Act} {w : World} (j : Nat) (hm : P.follows .mixedOrders = true) (hok : flowOk l = true) (hlk : lastOk l = true) (hS : S0 w.drew)
  (hZ : ∀ chain (b : Act) w', b.defers = a.defers → Z chain w' → Q (.panic chain) b w') (h : FlowW P l.toArray Q Z S0 S1 l (some j) a) : (Code.region id l.toArray true).wp P Q a w := by
 obtain ⟨V, h1, h2, h3, h4⟩ := flowW_open l (some j) a h
 refine wp_region_any hm ?_
 have hjl := h3 j rfl
 refine flowW_any (ops := l.toArray) (by simpa using hok) (by simpa using hlk) (V := V) (a0 := a) (j := j) (by simpa using h1) (by simpa using h2) (by simpa using hjl) (by simpa using h4) hZ _ (List.range l.length) _ _ _ (by simp) (fun i hi _ => by simpa using hi) (by simp) ?_ (fun k j hk hkl _ => by simp at hk; simp [hk] at hkl) ?_ (.inl ⟨?_, hS⟩)
 ·have : l.length - 1 < l.length := by omega
  simp [this]
 ·refine ⟨rfl, rfl, fun i o d hi hd hL => ?_, fun t _ => rfl⟩
  have hlt := (List.getElem?_eq_some_iff.1 hi).1
  simp [hlt] at hL
 ·have : j < l.length := by omega
  simp [this]
end
end Go.Proofs.YtieaicdihingkaaGreat
