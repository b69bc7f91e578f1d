/- The reference's step, against the package's; the reference's Step. -/
import Derived.Test.YtieaicdihingkaaGreatZ17
import Derived.Test.YtieaicdihingkaaGreatK34
namespace Go.Proofs.YtieaicdihingkaaGreat
set_option linter.unusedVariables false
set_option linter.unusedSimpArgs false
open Go.RowKit
def withS (x : Int) (m : Mach) : Mach := { m with steps := x }
/-- The outcome with another number of steps, and that a trap's kind is not 0. -/
def SameS (x : Int) (a b : Except (Int × Int) Mach) : Prop := match a, b with | .ok m, .ok n => n = withS x m | .error t, .error u => t = u ∧ t.1 ≠ 0 | _, _ => False
theorem SameS.err (x : Int) (a b : Int) (h : a ≠ 0) : SameS x (.error (a, b)) (.error (a, b)) := ⟨rfl, h⟩
theorem ss_load (x : Int) (m : Mach) (a : Int) (d : Nat) : SameS x (loadM m a 2 d) (loadM (withS x m) a 2 d) ∧ SameS x (loadM m a 1 d) (loadM (withS x m) a 1 d) := by
 constructor <;>
 ·unfold loadM
  split
  ·exact .err _ _ _ (by decide)
  ·exact rfl
theorem ss_store (x : Int) (m : Mach) (a v : Int) (n : Nat) : SameS x (storeM m a n v) (storeM (withS x m) a n v) := by
 unfold storeM
 split
 ·exact .err _ _ _ (by decide)
 ·exact rfl
theorem ss_con (x : Int) (E : Env) (m : Mach) (b a : Int) (n d : Nat) : SameS x (conM E m b a n d) (conM E (withS x m) b a n d) := by
 unfold conM
 split
 ·exact .err _ _ _ (by decide)
 ·exact rfl
theorem ss_table (x : Int) (E : Env) (m : Mach) (a : Int) : SameS x (tableM E m a) (tableM E (withS x m) a) := by
 unfold tableM
 rw [show codeM E (withS x m) a = codeM E m a from rfl, show codeM E (withS x m) ((a + 1) % 65536) = codeM E m ((a + 1) % 65536) from rfl]
 split
 ·exact .err _ _ _ (by decide)
 ·split
  ·exact .err _ _ _ (by decide)
  ·exact rfl
theorem ss_access (x : Int) (E : Env) (m : Mach) (i : InsI) (d s : Nat) : match accessM E m i d s, accessM E (withS x m) i d s with | some a, some b => SameS x a b | none, none => True | _, _ => False := by
 unfold accessM
 by_cases h : i.op = 80
 ·rw [if_pos h, if_pos h]; exact (ss_load x m _ d).1
 rw [if_neg h, if_neg h]; clear h
 by_cases h : i.op = 81
 ·rw [if_pos h, if_pos h]; exact (ss_load x m _ d).2
 rw [if_neg h, if_neg h]; clear h
 by_cases h : i.op = 82
 ·rw [if_pos h, if_pos h]; exact ss_store x m _ _ _
 rw [if_neg h, if_neg h]; clear h
 by_cases h : i.op = 83
 ·rw [if_pos h, if_pos h]; exact ss_store x m _ _ _
 rw [if_neg h, if_neg h]; clear h
 by_cases h : i.op = 84
 ·rw [if_pos h, if_pos h]; exact (ss_load x m _ d).1
 rw [if_neg h, if_neg h]; clear h
 by_cases h : i.op = 85
 ·rw [if_pos h, if_pos h]; exact (ss_load x m _ d).2
 rw [if_neg h, if_neg h]; clear h
 by_cases h : i.op = 86
 ·rw [if_pos h, if_pos h]; exact ss_store x m _ _ _
 rw [if_neg h, if_neg h]; clear h
 by_cases h : i.op = 87
 ·rw [if_pos h, if_pos h]; exact ss_store x m _ _ _
 rw [if_neg h, if_neg h]; clear h
 by_cases h : i.op = 88
 ·rw [if_pos h, if_pos h]; exact (ss_load x m _ d).1
 rw [if_neg h, if_neg h]; clear h
 by_cases h : i.op = 89
 ·rw [if_pos h, if_pos h]; exact (ss_load x m _ d).2
 rw [if_neg h, if_neg h]; clear h
 by_cases h : i.op = 90
 ·rw [if_pos h, if_pos h]; exact ss_store x m _ _ _
 rw [if_neg h, if_neg h]; clear h
 by_cases h : i.op = 91
 ·rw [if_pos h, if_pos h]; exact ss_store x m _ _ _
 rw [if_neg h, if_neg h]; clear h
 by_cases h : i.op = 146
 ·rw [if_pos h, if_pos h]; exact ss_con x E m _ _ _ d
 rw [if_neg h, if_neg h]; clear h
 by_cases h : i.op = 147
 ·rw [if_pos h, if_pos h]; exact ss_con x E m _ _ _ d
 rw [if_neg h, if_neg h]; clear h
 by_cases h : i.op = 150
 ·rw [if_pos h, if_pos h]; exact ss_store x m _ _ _
 rw [if_neg h, if_neg h]; clear h
 trivial
theorem ss_push (x : Int) (m : Mach) (v : Int) : SameS x (pushM m v) (pushM (withS x m) v) := by
 unfold pushM
 by_cases h : m.st.length + 1 ≤ 4096
 ·rw [if_pos h, if_pos (show (withS x m).st.length + 1 ≤ 4096 from h)]; exact rfl
 ·rw [if_neg h, if_neg (show ¬ ((withS x m).st.length + 1 ≤ 4096) from h)]; exact .err _ _ _ (by decide)
theorem ss_pop (x : Int) (m : Mach) (d : Nat) : SameS x (popM m d) (popM (withS x m) d) := by
 unfold popM
 rw [show (withS x m).st.getLast? = m.st.getLast? from rfl]
 cases m.st.getLast? with
 | none => exact .err _ _ _ (by decide)
 | some y => exact rfl
theorem ss_enter (x : Int) (m : Mach) (v : Int) : SameS x (enterM m v) (enterM (withS x m) v) := by
 unfold enterM
 by_cases h : m.st.length + 1 ≤ 4096
 ·rw [if_pos h, if_pos (show (withS x m).st.length + 1 ≤ 4096 from h)]
  by_cases h2 : m.st.length + 1 + v.toNat ≤ 4096
  ·rw [if_pos h2, if_pos (show (withS x m).st.length + 1 + v.toNat ≤ 4096 from h2)]; exact rfl
  ·rw [if_neg h2, if_neg (show ¬ (withS x m).st.length + 1 + v.toNat ≤ 4096 from h2)]; exact .err _ _ _ (by decide)
 ·rw [if_neg h, if_neg (show ¬ (withS x m).st.length + 1 ≤ 4096 from h)]; exact .err _ _ _ (by decide)
theorem ss_leave (x : Int) (m : Mach) : SameS x (leaveM m) (leaveM (withS x m)) := by
 unfold leaveM
 by_cases h : m.fp = 0 ∨ (m.st.length : Int) < m.fp
 ·rw [if_pos h, if_pos (show (withS x m).fp = 0 ∨ ((withS x m).st.length : Int) < (withS x m).fp from h)]; exact .err _ _ _ (by decide)
 ·rw [if_neg h, if_neg (show ¬ ((withS x m).fp = 0 ∨ ((withS x m).st.length : Int) < (withS x m).fp) from h)]; exact rfl
theorem ss_drop (x : Int) (m : Mach) (v : Int) : SameS x (dropM m v) (dropM (withS x m) v) := by
 unfold dropM
 by_cases h : v.toNat ≤ m.st.length
 ·rw [if_pos h, if_pos (show v.toNat ≤ (withS x m).st.length from h)]; exact rfl
 ·rw [if_neg h, if_neg (show ¬ (v.toNat ≤ (withS x m).st.length) from h)]; exact .err _ _ _ (by decide)
theorem ss_ld (x : Int) (m : Mach) (n : Int) (d : Nat) : SameS x (ldM m n d) (ldM (withS x m) n d) := by
 unfold ldM
 rw [show slotAt (withS x m) n = slotAt m n from rfl]
 cases slotAt m n with
 | none => exact .err _ _ _ (by decide)
 | some k => exact rfl
theorem ss_st (x : Int) (m : Mach) (n : Int) (d : Nat) : SameS x (stM m n d) (stM (withS x m) n d) := by
 unfold stM
 rw [show slotAt (withS x m) n = slotAt m n from rfl]
 cases slotAt m n with
 | none => exact .err _ _ _ (by decide)
 | some k => exact rfl
theorem ss_ret (x : Int) (m : Mach) : SameS x (retM m) (retM (withS x m)) := by
 unfold retM
 by_cases h : 2 ≤ m.st.length
 ·rw [if_pos h, if_pos (show 2 ≤ (withS x m).st.length from h)]; exact rfl
 ·rw [if_neg h, if_neg (show ¬ (2 ≤ (withS x m).st.length) from h)]; exact .err _ _ _ (by decide)
theorem ss_iret (x : Int) (m : Mach) : SameS x (iretM m) (iretM (withS x m)) := by
 unfold iretM
 by_cases h : 12 ≤ m.st.length
 ·rw [if_pos h, if_pos (show 12 ≤ (withS x m).st.length from h)]; exact rfl
 ·rw [if_neg h, if_neg (show ¬ (12 ≤ (withS x m).st.length) from h)]; exact .err _ _ _ (by decide)
theorem ss_push2 (x : Int) (m : Mach) : SameS x (push2M m) (push2M (withS x m)) := by
 unfold push2M
 by_cases h : m.st.length + 2 ≤ 4096
 ·rw [if_pos h, if_pos (show (withS x m).st.length + 2 ≤ 4096 from h)]; exact rfl
 ·rw [if_neg h, if_neg (show ¬ ((withS x m).st.length + 2 ≤ 4096) from h)]; exact .err _ _ _ (by decide)
theorem ss_call (x : Int) (m : Mach) (v : Int) : SameS x (callM m v) (callM (withS x m) v) := by
 have h := ss_push2 x m
 revert h
 unfold callM
 cases push2M m with
 | error t => cases push2M (withS x m) with
  | error u => exact id
  | ok b => exact fun h => h.elim
 | ok a => cases push2M (withS x m) with
  | error u => exact fun h => h.elim
  | ok b => intro h; have h : b = withS x a := h; subst h; exact rfl
theorem ss_callf (x : Int) (m : Mach) (i : InsI) : SameS x (callfM m i) (callfM (withS x m) i) := by
 have h := ss_push2 x m
 revert h
 unfold callfM
 cases push2M m with
 | error t => cases push2M (withS x m) with
  | error u => exact id
  | ok b => exact fun h => h.elim
 | ok a => cases push2M (withS x m) with
  | error u => exact fun h => h.elim
  | ok b => intro h; have h : b = withS x a := h; subst h; exact rfl
theorem ss_jtab (x : Int) (E : Env) (m : Mach) (d : Nat) (a b c : Int) : SameS x (jtabM E m d a b c) (jtabM E (withS x m) d a b c) := by
 unfold jtabM
 by_cases h : m.R d < c
 ·rw [if_pos h, if_pos (show (withS x m).R d < c from h)]; exact ss_table x E (addPc m a) _
 ·rw [if_neg h, if_neg (show ¬ (withS x m).R d < c from h)]; exact rfl
theorem ss_jcc (x : Int) (m : Mach) (op v : Int) : SameS x (jccM m op v) (jccM (withS x m) op v) := by
 unfold jccM
 by_cases h : condI (op % 16) m.f = true
 ·rw [if_pos h, if_pos (show condI (op % 16) (withS x m).f = true from h)]; exact rfl
 ·rw [if_neg h, if_neg (show ¬ condI (op % 16) (withS x m).f = true from h)]; exact rfl
theorem ss_stack (x : Int) (m : Mach) (i : InsI) (d : Nat) : match stackM m i d, stackM (withS x m) i d with | some a, some b => SameS x a b | none, none => True | _, _ => False := by
 unfold stackM
 by_cases h : i.op = 16
 ·rw [if_pos h, if_pos h]; exact ss_push x m _
 rw [if_neg h, if_neg h]; clear h
 by_cases h : i.op = 17
 ·rw [if_pos h, if_pos h]; exact ss_pop x m d
 rw [if_neg h, if_neg h]; clear h
 by_cases h : i.op = 20
 ·rw [if_pos h, if_pos h]; exact ss_enter x m _
 rw [if_neg h, if_neg h]; clear h
 by_cases h : i.op = 5
 ·rw [if_pos h, if_pos h]; exact ss_leave x m
 rw [if_neg h, if_neg h]; clear h
 by_cases h : i.op = 21
 ·rw [if_pos h, if_pos h]; exact ss_drop x m _
 rw [if_neg h, if_neg h]; clear h
 by_cases h : i.op = 160
 ·rw [if_pos h, if_pos h]; exact ss_ld x m _ d
 rw [if_neg h, if_neg h]; clear h
 by_cases h : i.op = 161
 ·rw [if_pos h, if_pos h]; exact ss_st x m _ d
 rw [if_neg h, if_neg h]; clear h
 by_cases h : i.op = 162
 ·rw [if_pos h, if_pos h]; exact ss_ld x m _ d
 rw [if_neg h, if_neg h]; clear h
 by_cases h : i.op = 163
 ·rw [if_pos h, if_pos h]; exact ss_st x m _ d
 rw [if_neg h, if_neg h]; clear h
 trivial
theorem ss_control (x : Int) (E : Env) (m : Mach) (i : InsI) (d : Nat) : match controlM E m i d, controlM E (withS x m) i d with | some a, some b => SameS x a b | none, none => True | _, _ => False := by
 unfold controlM
 by_cases h : i.op = 1
 ·rw [if_pos h, if_pos h]; exact ss_ret x m
 rw [if_neg h, if_neg h]; clear h
 by_cases h : i.op = 3
 ·rw [if_pos h, if_pos h]; exact ss_iret x m
 rw [if_neg h, if_neg h]; clear h
 by_cases h : i.op = 128 ∨ i.op = 129
 ·rw [if_pos h, if_pos h]; exact rfl
 rw [if_neg h, if_neg h]; clear h
 by_cases h : i.op = 130
 ·rw [if_pos h, if_pos h]; exact ss_call x m _
 rw [if_neg h, if_neg h]; clear h
 by_cases h : i.op = 132
 ·rw [if_pos h, if_pos h]; exact ss_callf x m i
 rw [if_neg h, if_neg h]; clear h
 by_cases h : i.op = 131
 ·rw [if_pos h, if_pos h]; exact rfl
 rw [if_neg h, if_neg h]; clear h
 by_cases h : i.op = 133
 ·rw [if_pos h, if_pos h]; exact ss_jtab x E m d _ _ _
 rw [if_neg h, if_neg h]; clear h
 by_cases h : i.op = 134
 ·rw [if_pos h, if_pos h]; exact ss_table x E m _
 rw [if_neg h, if_neg h]; clear h
 by_cases h : 96 ≤ i.op ∧ i.op < 128
 ·rw [if_pos h, if_pos h]; exact ss_jcc x m _ _
 rw [if_neg h, if_neg h]; clear h
 trivial
theorem ss_arith (x : Int) (m : Mach) (op : Int) (d : Nat) (b : Int) : SameS x (arithM m op d b) (arithM (withS x m) op d b) := by
 unfold arithM
 by_cases h : op = 32
 ·rw [if_pos h, if_pos h]; exact rfl
 rw [if_neg h, if_neg h]; clear h
 by_cases h : op = 33 ∨ op = 34
 ·rw [if_pos h, if_pos h]; exact rfl
 rw [if_neg h, if_neg h]; clear h
 by_cases h : op = 35 ∨ op = 36
 ·rw [if_pos h, if_pos h]; exact rfl
 rw [if_neg h, if_neg h]; clear h
 by_cases h : op = 40
 ·rw [if_pos h, if_pos h]; exact rfl
 rw [if_neg h, if_neg h]; clear h
 rw [show resI op ((withS x m).R d) b = resI op (m.R d) b from rfl]
 cases resI op (m.R d) b with
 | none => exact .err _ _ _ (by decide)
 | some r =>
  dsimp only
  by_cases h : op = 41
  ·rw [if_pos h, if_pos h]; exact rfl
  ·rw [if_neg h, if_neg h]; exact rfl
theorem ss_ports (x : Int) (E : Env) (m : Mach) (op : Int) (d : Nat) (v : Int) (ht : E.tin = []) : portsM E (withS x m) op d v = withS x (portsM E m op d v) := by
 unfold portsM
 by_cases h : op = 145
 ·rw [if_pos h, if_pos h]
  by_cases h2 : v = 0
  ·rw [if_pos h2, if_pos h2]; rfl
  ·rw [if_neg h2, if_neg h2]; rfl
 ·rw [if_neg h, if_neg h]
  by_cases h2 : v = 0
  ·rw [if_pos h2, if_pos h2]; rfl
  ·rw [if_neg h2, if_neg h2]
   unfold inM
   rw [ht]
   rfl
theorem ss_rest (x : Int) (E : Env) (m : Mach) (i : InsI) (d s : Nat) : SameS x (restM E m i d s) (restM E (withS x m) i d s) := by
 have h1 := ss_access x E m i d s
 have h2 := ss_stack x m i d
 have h3 := ss_control x E m i d
 unfold restM
 revert h1 h2 h3
 cases accessM E m i d s with
 | some a => cases accessM E (withS x m) i d s with
  | some b => exact fun h _ _ => h
  | none => exact fun h => h.elim
 | none => cases accessM E (withS x m) i d s with
  | some b => exact fun h => h.elim
  | none =>
   intro _
   cases stackM m i d with
   | some a => cases stackM (withS x m) i d with
    | some b => exact fun h _ => h
    | none => exact fun h => h.elim
   | none => cases stackM (withS x m) i d with
    | some b => exact fun h => h.elim
    | none =>
     intro _
     cases controlM E m i d with
     | some a => cases controlM E (withS x m) i d with
      | some b => exact id
      | none => exact fun h => h.elim
     | none => cases controlM E (withS x m) i d with
      | some b => exact fun h => h.elim
      | none => exact fun _ => rfl
theorem ss_exec (x : Int) (E : Env) (m : Mach) (i : InsI) (d s : Nat) (ht : E.tin = []) (hq : E.tirq = []) : SameS x (execM E m i d s) (execM E (withS x m) i d s) := by
 unfold execM
 by_cases h : i.op = 0
 ·rw [if_pos h, if_pos h]; exact rfl
 rw [if_neg h, if_neg h]; clear h
 by_cases h : i.op = 2
 ·rw [if_pos h, if_pos h]; exact .err _ _ _ (by decide)
 rw [if_neg h, if_neg h]; clear h
 by_cases h : i.op = 4
 ·rw [if_pos h, if_pos h]; unfold pollM; rw [hq]; exact rfl
 rw [if_neg h, if_neg h]; clear h
 by_cases h : i.op = 144 ∨ i.op = 145
 ·rw [if_pos h, if_pos h]; exact ss_ports x E m _ d _ ht
 rw [if_neg h, if_neg h]; clear h
 by_cases h : i.op = 18
 ·rw [if_pos h, if_pos h]; exact rfl
 rw [if_neg h, if_neg h]; clear h
 by_cases h : i.op = 19
 ·rw [if_pos h, if_pos h]; exact rfl
 rw [if_neg h, if_neg h]; clear h
 by_cases h : 32 ≤ i.op ∧ i.op ≤ 46
 ·rw [if_pos h, if_pos h]; exact ss_arith x m _ d _
 rw [if_neg h, if_neg h]; clear h
 by_cases h : 48 ≤ i.op ∧ i.op ≤ 62
 ·rw [if_pos h, if_pos h]; exact ss_arith x m _ d _
 rw [if_neg h, if_neg h]; clear h
 by_cases h : 64 ≤ i.op ∧ i.op ≤ 78
 ·rw [if_pos h, if_pos h]; exact ss_arith x m _ d _
 rw [if_neg h, if_neg h]; clear h
 exact ss_rest x E m i d s
theorem exec_steps {E : Env} {m n : Mach} {i : InsI} {d s : Nat} (ht : E.tin = []) (hq : E.tirq = []) (h : execM E m i d s = .ok n) : n.steps = m.steps := by
 have h9 := ss_exec m.steps E m i d s ht hq
 rw [show withS m.steps m = m from rfl, h] at h9
 have h9 : n = withS m.steps n := h9
 rw [h9]
 rfl
/-- The reference's step is the package's, but for SP. -/
theorem step_rel (E : Env) (m : Mach) (ht : E.tin = []) (hq : E.tirq = []) : match rstepM E m with | .ok n => stepM E m = .ok { n with sp := n.st.length } | .error t => stepM E m = .error t ∧ t.1 ≠ 0 := by
 unfold rstepM stepM
 cases hf : fetchM E m with
 | error t => exact ⟨rfl, fetchM_kind hf⟩
 | ok i =>
  dsimp only
  have h9 := ss_exec (wrap64 (m.steps + 1)) E (addPc m i.size) i i.d.toNat i.s.toNat ht hq
  rw [show withS (wrap64 (m.steps + 1)) (addPc m i.size) = stepped m i.size from rfl] at h9
  revert h9
  cases ha : execM E (addPc m i.size) i i.d.toNat i.s.toNat with
  | error t => cases execM E (stepped m i.size) i i.d.toNat i.s.toNat with
   | error u => intro h; obtain ⟨rfl, h2⟩ := h; exact ⟨rfl, h2⟩
   | ok b => exact fun h => h.elim
  | ok a => cases execM E (stepped m i.size) i i.d.toNat i.s.toNat with
   | error u => exact fun h => h.elim
   | ok b =>
    intro h
    have h : b = withS (wrap64 (m.steps + 1)) a := h
    subst h
    dsimp only
    rw [show a.steps = m.steps from exec_steps (m := addPc m i.size) ht hq ha]
    rfl
end Go.Proofs.YtieaicdihingkaaGreat
