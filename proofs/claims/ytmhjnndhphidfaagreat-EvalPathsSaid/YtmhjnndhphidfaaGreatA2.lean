/- The relation between the evaluator's values and the model's: definitions, and that it outlives what others do. The operations that leave the memory as it is: what the evaluator says of them holds. The operations that leave the memory as it is: each of them. The operations that leave the memory as it is: each of them, run. More operations that leave the memory as it is. More operations that leave the memory as it is: comparisons of structs and nils, fields, slices, maps. More operations that leave the memory as it is: composites, fields, slices, maps, conversions. Lengths, slices, maps, conversions; and all operations that leave the memory as it is, together. -/
import Derived.Test.YtmhjnndhphidfaaGreatA1
import Derived.WalkKit
import Derived.Laws.Append
import Derived.Laws.CopyRow
import Derived.MapKept
import Derived.Laws.StructEq
import Derived.Laws.Tables
import Derived.Laws.BytesString
namespace Go.Ab
set_option maxRecDepth 8000
set_option linter.unusedSimpArgs false
set_option linter.unusedVariables false
/-! ### The functions of one step, in the words of the core -/
section
variable {α β : Type}
theorem ob_some {x : Option α} {f : α → Option β} {b : β} : ob x f = some b ↔ ∃ a, x = some a ∧ f a = some b := by cases x <;> simp [ob]
@[simp] theorem ob_none (f : α → Option β) : ob none f = none := rfl
@[simp] theorem ob_of (a : α) (f : α → Option β) : ob (some a) f = f a := rfl
@[simp] theorem bf_true (x y : α) : bf true x y = x := rfl
@[simp] theorem bf_false (x y : α) : bf false x y = y := rfl
theorem bf_some {c : Bool} {x : Option α} {b : α} : bf c x none = some b ↔ c = true ∧ x = some b := by cases c <;> simp [bf]
theorem bf_some' {c : Bool} {x : Option α} {b : α} : bf c none x = some b ↔ c = false ∧ x = some b := by cases c <;> simp [bf]
theorem bf_and {c d : Bool} : bf c d false = (c && d) := by cases c <;> rfl
@[simp] theorem nth_eq (l : List α) : ∀ i, nth l i = l[i]? := by
  induction l with
  | nil => intro i; rfl
  | cons a l ih => intro i; cases i with
    | zero => rfl
    | succ i => exact (ih i).trans (by simp)
@[simp] theorem setN_eq (v : α) (l : List α) : ∀ i, setN v l i = l.set i v := by
  induction l with
  | nil => intro i; rfl
  | cons a l ih => intro i; cases i with
    | zero => rfl
    | succ i => exact congrArg (a :: ·) (ih i)
@[simp] theorem len_eq (l : List α) : len l = l.length := by
  induction l with
  | nil => rfl
  | cons a l ih => exact congrArg Nat.succ ih
@[simp] theorem app_eq (l m : List α) : app l m = l ++ m := by
  induction l with
  | nil => rfl
  | cons a l ih => exact congrArg (a :: ·) ih
@[simp] theorem dropN_eq (l : List α) : ∀ n, dropN l n = l.drop n := by
  induction l with
  | nil => intro n; cases n <;> rfl
  | cons a l ih => intro n; cases n with
    | zero => rfl
    | succ n => exact ih n
@[simp] theorem takeN_eq (l : List α) : ∀ n, takeN l n = l.take n := by
  induction l with
  | nil => intro n; cases n <;> rfl
  | cons a l ih => intro n; cases n with
    | zero => rfl
    | succ n => exact congrArg (a :: ·) (ih n)
@[simp] theorem mapL_eq (f : α → β) (l : List α) : mapL f l = l.map f := by
  induction l with
  | nil => rfl
  | cons a l ih => exact congrArg (f a :: ·) ih
@[simp] theorem allL_eq (f : α → Bool) (l : List α) : allL f l = l.all f := by
  induction l with
  | nil => rfl
  | cons a l ih =>
    show bf (f a) (allL f l) false = _
    rw [ih, bf_and]; rfl
@[simp] theorem mapO_nil (f : α → Option β) : mapO f [] = some [] := rfl
@[simp] theorem mapO_cons (f : α → Option β) (a : α) (l : List α) : mapO f (a :: l) = ob (f a) fun b => ob (mapO f l) fun bs => some (b :: bs) := rfl
theorem mapO_some {f : α → Option β} {l : List α} {m : List β} (h : mapO f l = some m) : l.length = m.length ∧ ∀ (i : Nat) (a : α), l[i]? = some a → ∃ b, m[i]? = some b ∧ f a = some b := by
  induction l generalizing m with
  | nil => simp at h; subst h; simp
  | cons a l ih =>
    simp only [mapO_cons, ob_some] at h
    obtain ⟨b, hb, bs, hbs, e⟩ := h
    cases e
    obtain ⟨h1, h2⟩ := ih hbs
    refine ⟨by simp [h1], fun i c hc => ?_⟩
    cases i with
    | zero => simp at hc; subst hc; exact ⟨b, by simp, hb⟩
    | succ i => simpa using h2 i c (by simpa using hc)
theorem mapO_back {f : α → Option β} {l : List α} {m : List β} (h : mapO f l = some m) {i : Nat} {b : β} (hb : m[i]? = some b) : ∃ a, l[i]? = some a ∧ f a = some b := by
  obtain ⟨h1, h2⟩ := mapO_some h
  have hi : i < l.length := by rw [h1]; exact (List.getElem?_eq_some_iff.1 hb).1
  obtain ⟨c, hc, hf⟩ := h2 i l[i] (List.getElem?_eq_getElem hi)
  rw [hb] at hc; cases hc
  exact ⟨l[i], List.getElem?_eq_getElem hi, hf⟩
theorem mapC_eq (f : α → Option β) (l : List α) : mapC f l = mapO f l := by
  induction l with
  | nil => rfl
  | cons a l ih =>
    simp only [mapC, mapO_cons, ih]
    cases f a <;> simp
    cases mapO f l <;> simp
end
@[simp] theorem getO_nil (id : Nat) : getO id [] = none := rfl
theorem getO_cons (id i : Nat) (o : Ob) (l : Objs) : getO id ((i, o) :: l) = if id = i then some o else getO id l := by
  show bf (Nat.beq id i) (some o) (getO id l) = _
  by_cases h : id = i
  · subst h; simp [Nat.beq_refl]
  · have : Nat.beq id i = false := by
      cases hb : Nat.beq id i with
      | false => rfl
      | true => exact absurd (Nat.eq_of_beq_eq_true hb) h
    simp [this, h]
theorem getO_setO (id : Nat) (x : Ob) (l : Objs) (j : Nat) : getO j (setO id x l) = if j = id then (getO id l).map (fun _ => x) else getO j l := by
  induction l with
  | nil => simp [setO, getO]
  | cons p l ih =>
    obtain ⟨i, o⟩ := p
    have e : setO id x ((i, o) :: l) = if id = i then (i, x) :: l else (i, o) :: setO id x l := by
      show bf (Nat.beq id i) ((i, x) :: l) ((i, o) :: setO id x l) = _
      by_cases h : id = i
      · subst h; simp [Nat.beq_refl]
      · have : Nat.beq id i = false := by
          cases hb : Nat.beq id i with
          | false => rfl
          | true => exact absurd (Nat.eq_of_beq_eq_true hb) h
        simp [this, h]
    rw [e]
    by_cases h : id = i
    · subst h
      simp only [if_true, getO_cons]
      by_cases hj : j = id <;> simp [hj]
    · simp only [h, if_false, getO_cons, ih]
      by_cases hj : j = id
      · subst hj; simp [h]
      · simp [hj]
/-! ### Worlds -/
structure Loc where
  b : Nat
  o : Nat
  s : Nat
abbrev Bl := Nat → Prop
/-- Where objects lie; blocks that others own. -/
structure Gm where
  f : Nat → Loc
  X : Bl
instance : CoeFun Gm (fun _ => Nat → Loc) := ⟨Gm.f⟩
/-- From w to w': what nobody owns is as it was; rows keep their sizes. -/
structure Ev (O : Bl) (w w' : World) : Prop where
  os : w'.os = w.os
  tape : w'.tape = w.tape
  output : w'.output = w.output
  size : w.heap.size ≤ w'.heap.size
  keep : ∀ b : Nat, b < w.heap.size → ¬ O b → w'.heap[b]? = w.heap[b]?
  shape : ∀ (b : Nat) (c : Array Value) (e : TypeId) (fr : Nat × Nat), w.heap[b]? = some (.cells c e fr) → ∃ c', w'.heap[b]? = some (.cells c' e fr) ∧ c'.size = c.size
theorem Ev.refl (O : Bl) (w : World) : Ev O w w := ⟨rfl, rfl, rfl, Nat.le_refl _, fun _ _ _ => rfl, fun b c e fr h => ⟨c, h, rfl⟩⟩
theorem Ev.trans {O O' : Bl} {w w' w'' : World} (h : Ev O w w') (k : Ev O' w' w'') (hO : ∀ b, b < w.heap.size → O' b → O b) : Ev O w w'' where
  os := k.os.trans h.os
  tape := k.tape.trans h.tape
  output := k.output.trans h.output
  size := Nat.le_trans h.size k.size
  keep b hb hn := (k.keep b (Nat.lt_of_lt_of_le hb h.size) (fun ho => hn (hO b hb ho))).trans (h.keep b hb hn)
  shape b c e fr hc := by
    obtain ⟨c', hc', hs'⟩ := h.shape b c e fr hc
    obtain ⟨c'', hc'', hs''⟩ := k.shape b c' e fr hc'
    exact ⟨c'', hc'', hs''.trans hs'⟩
theorem Ev.mono {O O' : Bl} {w w' : World} (h : Ev O w w') (hO : ∀ b, O b → O' b) : Ev O' w w' :=
  ⟨h.os, h.tape, h.output, h.size, fun b hb hn => h.keep b hb (fun ho => hn (hO b ho)), h.shape⟩
theorem cell_lt {w : World} {a : Addr} {v : Value} (h : w.cell? a = some v) : a.block < w.heap.size := by
  unfold World.cell? at h
  cases hb : w.heap[a.block]? with
  | none => rw [hb] at h; simp at h
  | some o => exact (Array.getElem?_eq_some_iff.1 hb).1
theorem cell_of {w w' : World} {a : Addr} (h : w'.heap[a.block]? = w.heap[a.block]?) : w'.cell? a = w.cell? a := by
  unfold World.cell?; rw [h]
theorem Ev.cell {O : Bl} {w w' : World} (h : Ev O w w') {a : Addr} {v : Value} (ha : w.cell? a = some v) (hn : ¬ O a.block) : w'.cell? a = some v :=
  (cell_of (h.keep _ (cell_lt ha) hn)).trans ha
/-! ### Values -/
def CellV (v : Value) : Prop := v.oneCell' = true
inductive PRel (w : World) (O : Bl) : PV → Value → Prop
  | bool (b : Bool) : PRel w O (.bool b) (.bool b)
  | int (k : IntKind) (n : Int) : PRel w O (.int k n) (.int k n)
  | str (s : List Nat) (b : ByteArray) (h : b.data.toList.map UInt8.toNat = s) : PRel w O (.str s) (.string b)
  | fz0 (a : Option Addr) (cap : Nat) : PRel w O (.fz []) (.slice a 0 cap)
  | fz (es : List (List PV)) (b base s cap : Nat) (f : Nat → Nat → Value) (hb : b < w.heap.size) (hO : ¬ O b) (hc : es.length ≤ cap) (hs : ∀ (i : Nat) (c : List PV), es[i]? = some c → c.length = s)
      (hw : ∀ (i j : Nat) (c : List PV) (v : PV), es[i]? = some c → c[j]? = some v → w.cell? ⟨b, base + i * s + j, none⟩ = some (f i j))
      (hv : ∀ (i j : Nat) (c : List PV) (v : PV), es[i]? = some c → c[j]? = some v → CellV (f i j))
      (hr : ∀ (i j : Nat) (c : List PV) (v : PV), es[i]? = some c → c[j]? = some v → PRel w O v (f i j)) : PRel w O (.fz es) (.slice (some ⟨b, base, none⟩) es.length cap)
  | agg (cs : List PV) (vs : List Value) (hl : cs.length = vs.length) (hv : ∀ (i : Nat) (x : Value), vs[i]? = some x → CellV x)
      (h : ∀ (i : Nat) (c : PV) (x : Value), cs[i]? = some c → vs[i]? = some x → PRel w O c x) : PRel w O (.agg cs) (.agg ⟨vs⟩)
theorem PRel.mono {w w' : World} {O O' : Bl} {v : PV} {x : Value} (h : PRel w O v x) (he : Ev O w w') (hO : ∀ b, b < w.heap.size → O' b → O b) : PRel w' O' v x := by
  induction h with
  | bool b => exact .bool b
  | int k n => exact .int k n
  | str s b h => exact .str s b h
  | fz0 a cap => exact .fz0 a cap
  | fz es b base s cap f hb hn hc hs hw hv hr ih =>
    exact .fz es b base s cap f (Nat.lt_of_lt_of_le hb he.size) (fun ho => hn (hO b hb ho)) hc hs (fun i j c v h1 h2 => he.cell (hw i j c v h1 h2) hn) hv ih
  | agg cs vs hl hv h ih => exact .agg cs vs hl hv ih
/-- Elements of s cells lie at place base of block b, and nobody owns them. -/
structure Fz (w : World) (O : Bl) (es : List (List PV)) (b base s : Nat) : Prop where
  lt : b < w.heap.size
  own : ¬ O b
  len : ∀ (i : Nat) (c : List PV), es[i]? = some c → c.length = s
  at_ : ∀ (i j : Nat) (c : List PV) (v : PV), es[i]? = some c → c[j]? = some v → ∃ x, w.cell? ⟨b, base + i * s + j, none⟩ = some x ∧ CellV x ∧ PRel w O v x
theorem Fz.rel {w : World} {O : Bl} {es : List (List PV)} {b base s cap : Nat} (h : Fz w O es b base s) (hc : es.length ≤ cap) : PRel w O (.fz es) (.slice (some ⟨b, base, none⟩) es.length cap) := by
  have key : ∀ (i j : Nat) (c : List PV) (v : PV), es[i]? = some c → c[j]? = some v → w.cell? ⟨b, base + i * s + j, none⟩ = some ((w.cell? ⟨b, base + i * s + j, none⟩).getD undef) ∧ CellV ((w.cell? ⟨b, base + i * s + j, none⟩).getD undef) ∧ PRel w O v ((w.cell? ⟨b, base + i * s + j, none⟩).getD undef) := by
    intro i j c v h1 h2
    obtain ⟨x, hx, hv, hr⟩ := h.at_ i j c v h1 h2
    rw [hx]; exact ⟨rfl, hv, hr⟩
  exact .fz es b base s cap (fun i j => (w.cell? ⟨b, base + i * s + j, none⟩).getD undef) h.lt h.own hc h.len (fun i j c v h1 h2 => (key i j c v h1 h2).1) (fun i j c v h1 h2 => (key i j c v h1 h2).2.1) (fun i j c v h1 h2 => (key i j c v h1 h2).2.2)
/-- What a frozen slice is. -/
theorem PRel.fz_inv {w : World} {O : Bl} {es : List (List PV)} {x : Value} (h : PRel w O (.fz es) x) :
    ∃ a cap, x = .slice a es.length cap ∧ es.length ≤ cap ∧ (es = [] ∨ ∃ b base s, a = some ⟨b, base, none⟩ ∧ Fz w O es b base s) := by
  cases h with
  | fz0 a cap => exact ⟨a, cap, rfl, Nat.zero_le _, .inl rfl⟩
  | fz _ b base s cap f hb hn hc hs hw hv hr =>
    exact ⟨_, cap, rfl, hc, .inr ⟨b, base, s, rfl, hb, hn, hs, fun i j c v h1 h2 => ⟨f i j, hw i j c v h1 h2, hv i j c v h1 h2, hr i j c v h1 h2⟩⟩⟩
theorem Fz.mono {w w' : World} {O O' : Bl} {es : List (List PV)} {b base s : Nat} (h : Fz w O es b base s) (he : Ev O w w') (hO : ∀ b, b < w.heap.size → O' b → O b) : Fz w' O' es b base s :=
  ⟨Nat.lt_of_lt_of_le h.lt he.size, fun ho => h.own (hO b h.lt ho), h.len, fun i j c v h1 h2 => by
    obtain ⟨x, hx, hv, hr⟩ := h.at_ i j c v h1 h2
    exact ⟨x, he.cell hx h.own, hv, hr.mono he hO⟩⟩
inductive AVRel (w : World) (O : Bl) (G : Gm) : AV → Value → Prop
  | p (v : PV) (x : Value) (h : PRel w O v x) : AVRel w O G (.p v) x
  | nils : AVRel w O G .nils (.slice none 0 0)
  | lit (es : List (List PV)) (a : Option Addr) (h : PRel w O (.fz es) (.slice a es.length es.length)) : AVRel w O G (.lit es) (.slice a es.length es.length)
  | row (id s i len cap : Nat) (c : Array Value) (e : TypeId) (hs : (G id).s = s) (hc : len ≤ cap) (hb : w.heap[(G id).b]? = some (.cells c e (0, 0)))
      (hcap : (G id).o + i * s + cap * s ≤ c.size) : AVRel w O G (.row id s i len) (.slice (some ⟨(G id).b, (G id).o + i * s, none⟩) len cap)
  | row0 (id s i : Nat) (a : Option Addr) : AVRel w O G (.row id s i 0) (.slice a 0 0)
  | ptr (id i off : Nat) : AVRel w O G (.ptr id i off) (.pointer (some ⟨(G id).b, (G id).o + i * (G id).s + off, none⟩))
  | fptr (es : List (List PV)) (i off b base s : Nat) (h : Fz w O es b base s) : AVRel w O G (.fptr es i off) (.pointer (some ⟨b, base + i * s + off, none⟩))
  | nilp : AVRel w O G .nilp (.pointer none)
  | map (id : Nat) : AVRel w O G (.map id) (.map (some (G id).b))
  | nilm : AVRel w O G .nilm (.map none)
  | fn (f : Nat) (a b : List AV) (xs ys : List Value) (ha : a.length = xs.length) (hb : b.length = ys.length) (h : ∀ (i : Nat) (v : AV) (x : Value), a[i]? = some v → xs[i]? = some x → AVRel w O G v x)
      (k : ∀ (i : Nat) (v : AV) (x : Value), b[i]? = some v → ys[i]? = some x → AVRel w O G v x) : AVRel w O G (.fn f a b) (.func (.func f) ⟨xs⟩ ⟨ys⟩)
  | nilf : AVRel w O G .nilf .nilFunc
  | iface (t : Nat) (v : AV) (x : Value) (h : AVRel w O G v x) : AVRel w O G (.iface t v) (.iface t x)
  | nili : AVRel w O G .nili .nilIface
  | agg (cs : List AV) (vs : List Value) (hl : cs.length = vs.length) (hv : ∀ (i : Nat) (x : Value), vs[i]? = some x → CellV x)
      (h : ∀ (i : Nat) (c : AV) (x : Value), cs[i]? = some c → vs[i]? = some x → AVRel w O G c x) : AVRel w O G (.agg cs) (.agg ⟨vs⟩)
  | tup (cs : List AV) (vs : List Value) (hl : cs.length = vs.length) (h : ∀ (i : Nat) (c : AV) (x : Value), cs[i]? = some c → vs[i]? = some x → AVRel w O G c x) : AVRel w O G (.tup cs) (.tuple ⟨vs⟩)
/-! ### References -/
section
variable (id s i n f t : Nat) (v : AV) (a b cs : List AV) (es : List (List PV)) (q : PV)
@[simp] theorem refs_p : refs (.p q) = [] := rfl
@[simp] theorem refs_nils : refs .nils = [] := rfl
@[simp] theorem refs_lit : refs (.lit es) = [] := rfl
@[simp] theorem refs_row : refs (.row id s i n) = [id] := rfl
@[simp] theorem refs_ptr : refs (.ptr id i n) = [id] := rfl
@[simp] theorem refs_fptr : refs (.fptr es i n) = [] := rfl
@[simp] theorem refs_nilp : refs .nilp = [] := rfl
@[simp] theorem refs_map : refs (.map id) = [id] := rfl
@[simp] theorem refs_nilm : refs .nilm = [] := rfl
@[simp] theorem refs_nilf : refs .nilf = [] := rfl
@[simp] theorem refs_nili : refs .nili = [] := rfl
@[simp] theorem refs_iface : refs (.iface t v) = refs v := rfl
@[simp] theorem refsL_nil : refsL [] = [] := rfl
@[simp] theorem refsL_cons : refsL (v :: a) = refs v ++ refsL a := app_eq _ _
theorem refsL_rec : ∀ a : List AV, AV.rec_1 (motive_1 := fun _ => List Nat) (motive_2 := fun _ => List Nat) (fun _ => []) [] (fun _ => []) (fun id _ _ _ => [id]) (fun id _ _ => [id]) (fun _ _ _ => []) [] (fun id => [id]) [] (fun _ _ _ a b => app a b) [] (fun _ _ r => r) [] (fun _ r => r) (fun _ r => r) [] (fun _ _ a b => app a b) a = refsL a
  | [] => rfl
  | v :: l => congrArg (app (refs v)) (refsL_rec l)
@[simp] theorem refs_fn : refs (.fn f a b) = refsL a ++ refsL b := (app_eq _ _).trans (by rw [refsL_rec, refsL_rec])
@[simp] theorem refs_agg : refs (.agg cs) = refsL cs := refsL_rec cs
@[simp] theorem refs_tup : refs (.tup cs) = refsL cs := refsL_rec cs
end
@[simp] theorem refsLL_nil : refsLL [] = [] := rfl
@[simp] theorem refsLL_cons (c : List AV) (l : List (List AV)) : refsLL (c :: l) = refsL c ++ refsLL l := app_eq _ _
@[simp] theorem refsM_nil : refsM [] = [] := rfl
@[simp] theorem refsM_cons (p : PV × AV) (l : List (PV × AV)) : refsM (p :: l) = refs p.2 ++ refsM l := app_eq _ _
theorem refsLL_get {es : List (List AV)} {i : Nat} {c : List AV} (h : es[i]? = some c) {r : Nat} (hr : r ∈ refsL c) : r ∈ refsLL es := by
  induction es generalizing i with
  | nil => simp at h
  | cons d l ih =>
    simp only [refsLL_cons, List.mem_append]
    cases i with
    | zero => simp at h; subst h; exact .inl hr
    | succ i => exact .inr (ih (by simpa using h))
theorem refsM_get {l : List (PV × AV)} {i : Nat} {p : PV × AV} (h : l[i]? = some p) {r : Nat} (hr : r ∈ refs p.2) : r ∈ refsM l := by
  induction l generalizing i with
  | nil => simp at h
  | cons d l ih =>
    simp only [refsM_cons, List.mem_append]
    cases i with
    | zero => simp at h; subst h; exact .inl hr
    | succ i => exact .inr (ih (by simpa using h))
theorem refsL_mem {a : List AV} {r : Nat} : r ∈ refsL a ↔ ∃ v ∈ a, r ∈ refs v := by
  induction a with
  | nil => simp
  | cons v l ih => simp [ih]
theorem refsL_get {a : List AV} {i : Nat} {v : AV} (h : a[i]? = some v) {r : Nat} (hr : r ∈ refs v) : r ∈ refsL a := refsL_mem.2 ⟨v, List.mem_of_getElem? h, hr⟩
theorem AVRel.mono {w w' : World} {O O' : Bl} {G G' : Gm} {v : AV} {x : Value} (h : AVRel w O G v x) (he : Ev O w w') (hO : ∀ b, b < w.heap.size → O' b → O b)
    (hG : ∀ r ∈ refs v, G' r = G r) : AVRel w' O' G' v x := by
  induction h with
  | p v x h => exact .p v x (h.mono he hO)
  | nils => exact .nils
  | lit es a h => exact .lit es a (h.mono he hO)
  | row id s i len cap c e hs hc hb hcap =>
    have hg := hG id (by simp)
    obtain ⟨c', hc', hsz⟩ := he.shape _ _ _ _ hb
    rw [← hg] at hs hc' hcap ⊢
    exact .row id s i len cap c' e hs hc hc' (by rw [hsz]; exact hcap)
  | row0 id s i a => exact .row0 id s i a
  | ptr id i off => rw [← hG id (by simp)]; exact .ptr id i off
  | fptr es i off b base s h => exact .fptr es i off b base s (h.mono he hO)
  | nilp => exact .nilp
  | map id => rw [← hG id (by simp)]; exact .map id
  | nilm => exact .nilm
  | fn f a b xs ys ha hb h k ih ik =>
    exact .fn f a b xs ys ha hb (fun i v x h1 h2 => ih i v x h1 h2 fun r hr => hG r (by simp [refsL_get h1 hr])) (fun i v x h1 h2 => ik i v x h1 h2 fun r hr => hG r (by simp [refsL_get h1 hr]))
  | nilf => exact .nilf
  | iface t v x h ih => exact .iface t v x (ih hG)
  | nili => exact .nili
  | agg cs vs hl hv h ih => exact .agg cs vs hl hv (fun i c x h1 h2 => ih i c x h1 h2 fun r hr => hG r (by simp [refsL_get h1 hr]))
  | tup cs vs hl h ih => exact .tup cs vs hl (fun i c x h1 h2 => ih i c x h1 h2 fun r hr => hG r (by simp [refsL_get h1 hr]))
/-! ### Objects -/
/-- A row of elements: its block, and its cells. -/
def Row (w : World) (O : Bl) (G : Gm) (l : Loc) (es : List (List AV)) : Prop :=
  ∃ (c : Array Value) (e : TypeId), w.heap[l.b]? = some (.cells c e (0, 0)) ∧ 0 < l.s ∧ l.o + es.length * l.s ≤ c.size ∧
    ∀ (i : Nat) (cs : List AV), es[i]? = some cs → cs.length = l.s ∧ ∀ (j : Nat) (v : AV), cs[j]? = some v → ∃ x, c[l.o + i * l.s + j]? = some x ∧ CellV x ∧ AVRel w O G v x
/-- How many entries; their stamps. -/
def MapSz (es : Array MapEntry) (clock n : Nat) : Prop := es.size = n ∧ ∀ (i : Nat) (e : MapEntry), es[i]? = some e → e.born < clock
theorem MapSz.push {es : Array MapEntry} {ck n : Nat} (h : MapSz es ck n) (k v : Value) : MapSz (es.push { key := k, val := v, born := ck }) (ck + 1) (n + 1) := by
  refine ⟨by simp [h.1], fun i e he => ?_⟩
  rw [Array.getElem?_push] at he
  split at he
  · cases he; simp
  · exact Nat.lt_succ_of_lt (h.2 i e he)
theorem MapSz.modify {es : Array MapEntry} {ck n : Nat} (h : MapSz es ck n) (j : Nat) (f : MapEntry → MapEntry) (hf : ∀ e, (f e).born = e.born) : MapSz (es.modify j f) ck n := by
  refine ⟨by simp [h.1], fun i e he => ?_⟩
  rw [Array.getElem?_modify] at he
  split at he
  · rw [Option.map_eq_some_iff] at he
    obtain ⟨e', h1, rfl⟩ := he
    rw [hf]
    exact h.2 i e' h1
  · exact h.2 i e he
theorem MapSz.erase {es : Array MapEntry} {ck n : Nat} (h : MapSz es ck n) (j : Nat) (hj : j < es.size) : MapSz (es.eraseIdxIfInBounds j) ck (n - 1) := by
  rw [Array.eraseIdxIfInBounds, dif_pos hj]
  refine ⟨by rw [Array.size_eraseIdx, h.1], fun i e he => ?_⟩
  have h4 : (es.toList.eraseIdx j)[i]? = some e := by
    have e2 : (es.eraseIdx j hj).toList = es.toList.eraseIdx j := Array.toList_eraseIdx
    rw [← e2, Array.getElem?_toList]
    exact he
  rw [List.getElem?_eraseIdx] at h4
  split at h4
  · exact h.2 i e (by simpa using h4)
  · exact h.2 (i + 1) e (by simpa using h4)
theorem MapSz.zero : MapSz #[] 0 0 := ⟨rfl, fun i e h => by simp at h⟩
def MapAt (w : World) (O : Bl) (G : Gm) (b : Nat) (m : List (PV × AV)) : Prop :=
  ∃ (es : Array MapEntry) (clock : Nat), w.heap[b]? = some (.map es clock) ∧ MapSz es clock m.length ∧
    ∀ (i : Nat) (k : PV) (v : AV) (e : MapEntry), m[i]? = some (k, v) → es[i]? = some e → PRel w O k e.key ∧ AVRel w O G v e.val
def lift (es : List (List PV)) : List (List AV) := es.map (·.map .p)
def ORel (w : World) (O : Bl) (G : Gm) (l : Loc) : Ob → Prop
  | .pr es => Row w O G l (lift es)
  | .cells es => Row w O G l es
  | .pmap m => MapAt w O G l.b (m.map fun p => (p.1, .p p.2))
  | .map m => MapAt w O G l.b m
  | .dead => True
def Alive (objs : Objs) (id : Nat) (o : Ob) : Prop := getO id objs = some o ∧ o ≠ .dead
/-- The blocks of the objects; with those that others own. -/
def Mut (objs : Objs) (G : Gm) : Bl := fun b => ∃ id o, Alive objs id o ∧ (G id).b = b
def Own (objs : Objs) (G : Gm) : Bl := fun b => G.X b ∨ Mut objs G b
theorem Ev.up {objs : Objs} {G : Gm} {w w' : World} (h : Ev (Mut objs G) w w') : Ev (Own objs G) w w' := h.mono fun _ h => .inr h
/-- The objects and the world; B: the numbers that are in use. -/
structure St (objs : Objs) (B : Nat → Prop) (G : Gm) (w : World) : Prop where
  lt : ∀ id o, Alive objs id o → B id ∧ (G id).b < w.heap.size
  inj : ∀ id o id' o', Alive objs id o → Alive objs id' o' → (G id).b = (G id').b → id = id'
  rel : ∀ id o, Alive objs id o → ORel w (Own objs G) G (G id) o
  refs : ∀ id o, Alive objs id o → ∀ r ∈ refsO o, B r
  apart : ∀ id o, Alive objs id o → ¬ G.X (G id).b
  ltX : ∀ b, G.X b → b < w.heap.size
  wf : ∀ id o, getO id objs = some o → B id
def Below (B : Nat → Prop) (v : AV) : Prop := ∀ r ∈ refs v, B r
/-- What a step or a call leaves. -/
structure Post (objs : Objs) (B : Nat → Prop) (G : Gm) (w : World) (objs' : Objs) (B' : Nat → Prop) (G' : Gm) (w' : World) : Prop where
  st : St objs' B' G' w'
  ev : Ev (Mut objs G) w w'
  same : G'.X = G.X
  next : ∀ r, B r → B' r
  agree : ∀ id, B id → G' id = G id
  own : ∀ b, b < w.heap.size → Own objs' G' b → Own objs G b
section
variable {objs objs' objs'' : Objs} {B B' B'' : Nat → Prop} {G G' G'' : Gm} {w w' w'' : World} {v : AV} {x : Value}
theorem Post.refl (h : St objs B G w) : Post objs B G w objs B G w := ⟨h, .refl _ _, rfl, fun _ h => h, fun _ _ => rfl, fun _ _ h => h⟩
theorem Post.mut (h : Post objs B G w objs' B' G' w') {b : Nat} (hb : b < w.heap.size) (k : Mut objs' G' b) : Mut objs G b := by
  rcases h.own b hb (.inr k) with hx | hm
  · obtain ⟨id, o, h1, rfl⟩ := k
    rw [← h.same] at hx
    exact absurd hx (h.st.apart id o h1)
  · exact hm
theorem Post.trans (h : Post objs B G w objs' B' G' w') (k : Post objs' B' G' w' objs'' B'' G'' w'') : Post objs B G w objs'' B'' G'' w'' where
  st := k.st
  ev := h.ev.trans k.ev fun b hb hm => h.mut hb hm
  same := k.same.trans h.same
  next r hr := k.next r (h.next r hr)
  agree id hid := (k.agree id (h.next id hid)).trans (h.agree id hid)
  own b hb ho := h.own b hb (k.own b (Nat.lt_of_lt_of_le hb h.ev.size) ho)
theorem Post.val (h : Post objs B G w objs' B' G' w') (hv : AVRel w (Own objs G) G v x) (hb : Below B v) : AVRel w' (Own objs' G') G' v x := hv.mono h.ev.up h.own fun r hr => h.agree r (hb r hr)
theorem Post.below (h : Post objs B G w objs' B' G' w') (hb : Below B v) : Below B' v := fun r hr => h.next r (hb r hr)
end
end Go.Ab
namespace Go.Ab
set_option maxRecDepth 8000
set_option linter.unusedVariables false
set_option linter.unusedSimpArgs false
section
variable {w : World} {O : Bl} {G : Gm} {n : Nat → Prop}
/-- Related, and its references are below n. -/
def R (w : World) (O : Bl) (G : Gm) (n : Nat → Prop) (v : AV) (x : Value) : Prop := AVRel w O G v x ∧ Below n v
theorem R.p {v : PV} {x : Value} (h : PRel w O v x) : R w O G n (.p v) x := ⟨.p v x h, by intro r hr; simp at hr⟩
/-! ### Lists of values -/
def RL (w : World) (O : Bl) (G : Gm) (n : Nat → Prop) (vs : List AV) (xs : List Value) : Prop := vs.length = xs.length ∧ ∀ (i : Nat) (v : AV) (x : Value), vs[i]? = some v → xs[i]? = some x → R w O G n v x
theorem RL.nil : RL w O G n [] [] := ⟨rfl, by simp⟩
theorem RL.cons {v : AV} {x : Value} {vs : List AV} {xs : List Value} (h : R w O G n v x) (k : RL w O G n vs xs) : RL w O G n (v :: vs) (x :: xs) :=
  ⟨by simp [k.1], fun i a b ha hb => by
    cases i with
    | zero => simp at ha hb; subst ha; subst hb; exact h
    | succ i => exact k.2 i a b (by simpa using ha) (by simpa using hb)⟩
theorem RL.get {vs : List AV} {xs : List Value} (h : RL w O G n vs xs) {i : Nat} {v : AV} (hv : vs[i]? = some v) : ∃ x, xs[i]? = some x ∧ R w O G n v x := by
  have hi : i < xs.length := by rw [← h.1]; exact (List.getElem?_eq_some_iff.1 hv).1
  exact ⟨xs[i], List.getElem?_eq_getElem hi, h.2 i v _ hv (List.getElem?_eq_getElem hi)⟩
theorem RL.drop {vs : List AV} {xs : List Value} (h : RL w O G n vs xs) (k : Nat) : RL w O G n (vs.drop k) (xs.drop k) :=
  ⟨by simp [h.1], fun i v x hv hx => h.2 (k + i) v x (by simpa using hv) (by simpa using hx)⟩
theorem RL.take {vs : List AV} {xs : List Value} (h : RL w O G n vs xs) (k : Nat) : RL w O G n (vs.take k) (xs.take k) :=
  ⟨by simp [h.1], fun i v x hv hx => by
    simp only [List.getElem?_take] at hv hx
    split at hv
    · rename_i hk; rw [if_pos hk] at hx; exact h.2 i v x hv hx
    · cases hv⟩
theorem RL.append {vs us : List AV} {xs ys : List Value} (h : RL w O G n vs xs) (k : RL w O G n us ys) : RL w O G n (vs ++ us) (xs ++ ys) :=
  ⟨by simp [h.1, k.1], fun i v x hv hx => by
    simp only [List.getElem?_append, h.1] at hv hx
    split at hv
    · rename_i hi; rw [if_pos hi] at hx; exact h.2 _ v x hv hx
    · rename_i hi; rw [if_neg hi] at hx; exact k.2 _ v x hv hx⟩
theorem RL.pure {cs : List PV} {vs : List Value} (hl : cs.length = vs.length) (h : ∀ (i : Nat) (c : PV) (x : Value), cs[i]? = some c → vs[i]? = some x → PRel w O c x) : RL w O G n (cs.map .p) vs :=
  ⟨by simp [hl], fun i v x hv hx => by
    simp only [List.getElem?_map, Option.map_eq_some_iff] at hv
    obtain ⟨c, hc, rfl⟩ := hv
    exact R.p (h i c x hc hx)⟩
theorem belowL {cs : List AV} : (∀ v ∈ cs, Below n v) ↔ ∀ r ∈ refsL cs, n r := by
  constructor
  · intro h r hr
    obtain ⟨v, hv, hr⟩ := refsL_mem.1 hr
    exact h v hv r hr
  · intro h v hv r hr
    exact h r (refsL_mem.2 ⟨v, hv, hr⟩)
theorem RL.below {vs : List AV} {xs : List Value} (h : RL w O G n vs xs) : ∀ r ∈ refsL vs, n r := belowL.1 fun v hv => by
  obtain ⟨i, hi⟩ := List.mem_iff_getElem?.1 hv
  obtain ⟨x, _, hx⟩ := h.get hi
  exact hx.2
/-! ### Cells -/
theorem isCell_ok {v : AV} {x : Value} (h : AVRel w O G v x) (hc : isCell v = true) : CellV x := by
  cases h with
  | p v x h => cases h <;> first | rfl | (simp [isCell, notAgg] at hc)
  | agg => simp [isCell] at hc
  | tup => simp [isCell] at hc
  | _ => rfl
def AllCell (xs : List Value) : Prop := ∀ x ∈ xs, CellV x
theorem cells_ok {v : AV} {x : Value} (h : R w O G n v x) : RL w O G n (cellsA v) x.cells.toList := by
  obtain ⟨h, hb⟩ := h
  cases h with
  | p v x h =>
    cases h with
    | agg cs vs hl hv h => simpa [cellsA, cellsP, Value.cells] using RL.pure hl h
    | bool b => exact .cons (R.p (.bool b)) .nil
    | int k m => exact .cons (R.p (.int k m)) .nil
    | str s b h => exact .cons (R.p (.str s b h)) .nil
    | fz0 a cap => exact .cons (R.p (.fz0 a cap)) .nil
    | fz es b base s cap f hb' hn hc hs hw hv hr => exact .cons (R.p (.fz es b base s cap f hb' hn hc hs hw hv hr)) .nil
  | agg cs vs hl hv h => exact ⟨by simpa [cellsA, Value.cells] using hl, fun i c y hc hy => ⟨h i c y hc (by simpa [Value.cells] using hy), fun r hr => hb r (by rw [refs_agg]; exact refsL_get (show cs[i]? = some c from hc) hr)⟩⟩
  | nils => exact .cons ⟨.nils, hb⟩ .nil
  | lit es a h => exact .cons ⟨.lit es a h, hb⟩ .nil
  | row id s i len cap c e hs hc hb' hcap => exact .cons ⟨.row id s i len cap c e hs hc hb' hcap, hb⟩ .nil
  | row0 id s i a => exact .cons ⟨.row0 id s i a, hb⟩ .nil
  | ptr id i off => exact .cons ⟨.ptr id i off, hb⟩ .nil
  | fptr es i off b base s h => exact .cons ⟨.fptr es i off b base s h, hb⟩ .nil
  | nilp => exact .cons ⟨.nilp, hb⟩ .nil
  | map id => exact .cons ⟨.map id, hb⟩ .nil
  | nilm => exact .cons ⟨.nilm, hb⟩ .nil
  | fn f a b xs ys ha hb' h k => exact .cons ⟨.fn f a b xs ys ha hb' h k, hb⟩ .nil
  | nilf => exact .cons ⟨.nilf, hb⟩ .nil
  | iface t v x h => exact .cons ⟨.iface t v x h, hb⟩ .nil
  | nili => exact .cons ⟨.nili, hb⟩ .nil
  | tup cs vs hl h => exact .cons ⟨.tup cs vs hl h, hb⟩ .nil
theorem cells_cell {v : AV} {x : Value} (h : R w O G n v x) (hc : (cellsA v).all isCell = true) : AllCell x.cells.toList := by
  have k := cells_ok h
  intro y hy
  obtain ⟨i, hi⟩ := List.mem_iff_getElem?.1 hy
  have hlt : i < (cellsA v).length := by rw [k.1]; exact (List.getElem?_eq_some_iff.1 hi).1
  have hg := List.getElem?_eq_getElem hlt
  exact isCell_ok (k.2 i _ y hg hi).1 (List.all_eq_true.1 hc _ (List.getElem_mem hlt))
theorem pure?_some {v : AV} {q : PV} (h : pure? v = some q) : v = .p q := by cases v <;> simp_all [pure?]
theorem mkAgg_ok {cs : List AV} {xs : List Value} (h : RL w O G n cs xs) (hc : AllCell xs) : R w O G n (mkAgg cs) (.agg ⟨xs⟩) := by
  unfold mkAgg
  cases hp : mapO pure? cs with
  | none =>
    exact ⟨.agg cs xs h.1 (fun i x hx => hc x (List.mem_of_getElem? hx)) (fun i c x h1 h2 => (h.2 i c x h1 h2).1), fun r hr => by simp at hr; exact h.below r hr⟩
  | some ps =>
    obtain ⟨h1, h2⟩ := mapO_some hp
    refine R.p (.agg ps xs (h1.symm.trans h.1) (fun i x hx => hc x (List.mem_of_getElem? hx)) fun i c x hc hx => ?_)
    obtain ⟨v, hv, hq⟩ := mapO_back hp hc
    have := (h.2 i v x hv hx).1
    rw [pure?_some hq] at this
    cases this; assumption
/-- The first cell, or the first n of them. -/
theorem mkVal_ok {m : Option Nat} {cs : List AV} {xs : List Value} {u : AV} (h : RL w O G n cs xs) (hc : AllCell xs) (hu : mkVal m cs = some u) :
    match m with
    | none => ∃ x, xs[0]? = some x ∧ R w O G n u x
    | some k => k ≤ xs.length ∧ R w O G n u (.agg ⟨xs.take k⟩) := by
  cases m with
  | none =>
    have : cs[0]? = some u := by simpa [mkVal] using hu
    exact h.get this
  | some k =>
    simp only [mkVal, bf_some, takeN_eq, len_eq] at hu
    obtain ⟨h1, h2⟩ := hu
    cases h2
    have hk : k ≤ cs.length := Nat.le_of_ble_eq_true h1
    exact ⟨by rw [← h.1]; exact hk, mkAgg_ok (h.take k) fun x hx => hc x (List.mem_of_mem_take hx)⟩
/-! ### Shapes -/
theorem asP_some {v : AV} {q : PV} (h : asP v = some q) : v = .p q := by cases v <;> simp_all [asP]
theorem piI_some {v : PV} {k : IntKind × Int} (h : piI v = some k) : v = .int k.1 k.2 := by cases v <;> simp_all [piI]; cases h; exact ⟨rfl, rfl⟩
theorem piB_some {v : PV} {b : Bool} (h : piB v = some b) : v = .bool b := by cases v <;> simp_all [piB]
theorem piS_some {v : PV} {b : List Nat} (h : piS v = some b) : v = .str b := by cases v <;> simp_all [piS]
theorem asI_some {v : AV} {k : IntKind × Int} (h : asI v = some k) : v = .p (.int k.1 k.2) := by
  obtain ⟨q, h1, h2⟩ := ob_some.1 h
  rw [asP_some h1, piI_some h2]
theorem asB_some {v : AV} {b : Bool} (h : asB v = some b) : v = .p (.bool b) := by
  obtain ⟨q, h1, h2⟩ := ob_some.1 h
  rw [asP_some h1, piB_some h2]
theorem asS_some {v : AV} {b : List Nat} (h : asS v = some b) : v = .p (.str b) := by
  obtain ⟨q, h1, h2⟩ := ob_some.1 h
  rw [asP_some h1, piS_some h2]
theorem natOf_some {m : Int} {k : Nat} (h : natOf m = some k) : m = (k : Int) := by cases m <;> simp_all [natOf]
theorem asN_some {v : AV} {m : Nat} (h : asN v = some m) : ∃ k, v = .p (.int k (m : Int)) := by
  obtain ⟨q, h1, h2⟩ := ob_some.1 h
  exact ⟨q.1, by rw [asI_some h1, natOf_some h2]⟩
theorem R.int {k : IntKind} {m : Int} {x : Value} (h : R w O G n (.p (.int k m)) x) : x = .int k m := by cases h.1 with | p _ _ h => cases h; rfl
theorem R.bool {b : Bool} {x : Value} (h : R w O G n (.p (.bool b)) x) : x = .bool b := by cases h.1 with | p _ _ h => cases h; rfl
theorem R.str {s : List Nat} {x : Value} (h : R w O G n (.p (.str s)) x) : ∃ b : ByteArray, x = .string b ∧ b.data.toList.map UInt8.toNat = s := by cases h.1 with | p _ _ k => cases k with | str _ b k => exact ⟨b, rfl, k⟩
theorem R.pb (b : Bool) : R w O G n (.p (.bool b)) (.bool b) := R.p (.bool b)
theorem R.pi (k : IntKind) (m : Int) : R w O G n (.p (.int k m)) (.int k m) := R.p (.int k m)
end
/-! ### Constants and operands -/
theorem cellC_ok {w : World} {O : Bl} {G : Gm} {v : AV} {x : Value} (h : AVRel w O G v x) (hc : cellC v = true) : CellV x := by
  cases h with
  | p v x h => cases h <;> first | rfl | (simp [cellC] at hc)
  | agg => simp [cellC] at hc
  | tup => simp [cellC] at hc
  | _ => rfl
theorem ofValue_ok (w : World) (O : Bl) (G : Gm) : ∀ (m : Nat) (x : Value) (v : AV), ofValue m x = some v → R w O G (fun _ => False) v x
  | 0, x, v, h => by simp [ofValue] at h
  | m + 1, x, v, h => by
    unfold ofValue at h
    split at h <;> try (simp at h; done)
    all_goals try (cases h; first | exact R.p (.bool _) | exact R.p (.int _ _) | exact R.p (.str _ _ rfl) | exact ⟨.nilp, by intro r hr; simp at hr⟩ | exact ⟨.nils, by intro r hr; simp at hr⟩ | exact ⟨.nilm, by intro r hr; simp at hr⟩ | exact ⟨.nilf, by intro r hr; simp at hr⟩ | exact ⟨.nili, by intro r hr; simp at hr⟩ | exact ⟨.fn _ [] [] [] [] rfl rfl (by simp) (by simp), by intro r hr; simp at hr⟩ | exact ⟨.tup [] [] rfl (by simp), by intro r hr; simp at hr⟩)
    rename_i cs
    split at h <;> try (simp at h; done)
    rename_i l hl
    rw [mapC_eq] at hl
    obtain ⟨h1, h2⟩ := mapO_some hl
    split at h <;> try (simp at h; done)
    rename_i hcell
    have hRL : RL w O G (fun _ => False) l cs.toList := ⟨h1.symm, fun i v x hv hx => by
      obtain ⟨b, hb, hf⟩ := h2 i x hx
      rw [hv] at hb; cases hb
      exact ofValue_ok w O G m x v hf⟩
    have hC : AllCell cs.toList := fun y hy => by
      obtain ⟨i, hi⟩ := List.mem_iff_getElem?.1 hy
      obtain ⟨b, hb, hf⟩ := h2 i y hi
      exact cellC_ok (hRL.2 i b y hb hi).1 (List.all_eq_true.1 hcell b (List.mem_of_getElem? hb))
    split at h
    · rename_i ps hps
      cases h
      rw [mapC_eq] at hps
      obtain ⟨h3, h4⟩ := mapO_some hps
      refine R.p (.agg ps cs.toList (h3.symm.trans h1.symm) (fun i x hx => hC x (List.mem_of_getElem? hx)) fun i c x hc hx => ?_)
      obtain ⟨v, hv, hq⟩ := mapO_back hps hc
      have hr := (hRL.2 i v x hv hx).1
      cases v <;> simp [purC] at hq
      subst hq
      cases hr; assumption
    · cases h
      exact ⟨.agg l cs.toList h1.symm (fun i x hx => hC x (List.mem_of_getElem? hx)) (fun i c x h1 h2 => (hRL.2 i c x h1 h2).1), fun r hr => by simp at hr; exact hRL.below r hr⟩
/-- The slots of a state, through the compiler's numbering. -/
def Cx (ρ : Rho) (fr : Fr) (env : List AV) (a : Act) (w : World) (O : Bl) (G : Gm) (n : Nat → Prop) : Prop :=
  ∀ t o v, ρ t = some o → opd o fr env = some v → R w O G n v (a.eval (.tmp t))
theorem R.mono0 {w : World} {O : Bl} {G : Gm} {n : Nat → Prop} {v : AV} {x : Value} (h : R w O G (fun _ => False) v x) : R w O G n v x := ⟨h.1, fun r hr => (h.2 r hr).elim⟩
section
variable {ρ : Rho} {fr : Fr} {env : List AV} {a : Act} {w : World} {O : Bl} {G : Gm} {n : Nat → Prop}
theorem Cx.opd (h : Cx ρ fr env a w O G n) {x : Operand} {o : Opd} {v : AV} (hx : opdC ρ x = some o) (ho : Ab.opd o fr env = some v) : R w O G n v (a.eval x) := by
  cases x with
  | tmp t => exact h t o v hx ho
  | const c =>
    simp only [opdC] at hx
    split at hx <;> cases hx
    rename_i av hav
    simp [Ab.opd] at ho; subst ho
    exact (ofValue_ok w O G 10 c av hav).mono0
  | func f =>
    simp only [opdC] at hx; cases hx
    simp [Ab.opd] at ho; subst ho
    exact ⟨.fn f [] [] [] [] rfl rfl (by simp) (by simp), by intro r hr; simp at hr⟩
  | global g => simp [opdC] at hx
theorem Cx.opds (h : Cx ρ fr env a w O G n) {xs : List Operand} {os : List Opd} {vs : List AV} (hx : mapC (opdC ρ) xs = some os) (ho : Ab.opds os fr env = some vs) : RL w O G n vs (xs.map a.eval) := by
  rw [mapC_eq] at hx
  obtain ⟨h1, h2⟩ := mapO_some hx
  obtain ⟨h3, h4⟩ := mapO_some ho
  refine ⟨by simp [← h3, h1], fun i v x hv hxx => ?_⟩
  simp only [List.getElem?_map, Option.map_eq_some_iff] at hxx
  obtain ⟨y, hy, rfl⟩ := hxx
  obtain ⟨o, ho1, ho2⟩ := h2 i y hy
  obtain ⟨v', hv1, hv2⟩ := h4 i o ho1
  rw [hv] at hv1; cases hv1
  exact h.opd ho2 hv2
theorem with1_some {α : Type} {x : Operand} {f : Opd → α} {b : α} (h : with1 ρ x f = some b) : ∃ o, opdC ρ x = some o ∧ b = f o := by
  unfold with1 at h; split at h <;> cases h; exact ⟨_, ‹_›, rfl⟩
theorem with2_some {α : Type} {x y : Operand} {f : Opd → Opd → α} {b : α} (h : with2 ρ x y f = some b) : ∃ o o', opdC ρ x = some o ∧ opdC ρ y = some o' ∧ b = f o o' := by
  unfold with2 at h; split at h <;> cases h; exact ⟨_, _, ‹_›, ‹_›, rfl⟩
theorem with3_some {α : Type} {x y z : Operand} {f : Opd → Opd → Opd → α} {b : α} (h : with3 ρ x y z f = some b) : ∃ o o' o'', opdC ρ x = some o ∧ opdC ρ y = some o' ∧ opdC ρ z = some o'' ∧ b = f o o' o'' := by
  unfold with3 at h; split at h <;> cases h; exact ⟨_, _, _, ‹_›, ‹_›, ‹_›, rfl⟩
theorem Cx.opt (h : Cx ρ fr env a w O G n) {x : Option Operand} {o : Option Opd} (hx : optC ρ x = some o) :
    match x, o with
    | none, none => True
    | some x, some o => opdC ρ x = some o
    | _, _ => False := by
  cases x with
  | none => simp [optC] at hx; subst hx; trivial
  | some x =>
    simp only [optC] at hx
    split at hx <;> cases hx
    assumption
end
end Go.Ab
namespace Go.Ab
set_option maxRecDepth 8000
set_option linter.unusedVariables false
set_option linter.unusedSimpArgs false
/-! ### Types -/
section
variable {P : Program} (w : World)
theorem run_und {t : TypeId} {d : TypeDesc} (h : P.underlying t = some d) : (underlying t).run P w = .ok d w := by simp [underlying, h]
theorem info_of_und {t : TypeId} {d : TypeDesc} (h : P.underlying t = some d) : ∃ i, P.info? t = some i := by
  unfold Program.underlying at h
  cases hi : P.info? t with
  | none => rw [hi] at h; cases h
  | some i => exact ⟨i, rfl⟩
theorem run_size {t : TypeId} {i : TypeInfo} (h : P.info? t = some i) : (sizeOf t).run P w = .ok (P.cellsOf t) w := by simp [sizeOf, typeInfo, h, Program.cellsOf]
theorem run_size0 {t : TypeId} (h : P.cellsOf t ≠ 0) : (sizeOf t).run P w = .ok (P.cellsOf t) w := by
  cases hi : P.info? t with
  | none => simp [Program.cellsOf, hi] at h
  | some i => exact run_size w hi
theorem loadN_agg {t : TypeId} {m : Option Nat} (h : loadN P t = some m) : (isAgg t).run P w = .ok m.isSome w ∧ (sizeOf t).run P w = .ok (P.cellsOf t) w ∧ ∀ k, m = some k → k = P.cellsOf t := by
  unfold loadN at h
  cases hu : P.underlying t with
  | none => rw [hu] at h; cases h
  | some d =>
    obtain ⟨i, hi⟩ := info_of_und hu
    rw [hu] at h
    refine ⟨?_, run_size w hi, ?_⟩
    · cases d <;> simp at h <;> subst h <;> simp [isAgg, run_und w hu]
    · intro k hk; subst hk
      cases d <;> simp at h <;> exact h.symm
/-- Cells that lie in a row in the world. -/
def CellsAt (b base : Nat) (xs : List Value) : Prop := ∀ (j : Nat) (x : Value), xs[j]? = some x → w.cell? ⟨b, base + j, none⟩ = some x
variable {w}
theorem CellsAt.drop {b base : Nat} {xs : List Value} (h : CellsAt w b base xs) (k : Nat) : CellsAt w b (base + k) (xs.drop k) := fun j x hx => by
  rw [Nat.add_assoc]; exact h (k + j) x (by simpa using hx)
theorem CellsAt.take {b base : Nat} {xs : List Value} (h : CellsAt w b base xs) (k : Nat) : CellsAt w b base (xs.take k) := fun j x hx => by
  simp only [List.getElem?_take] at hx; split at hx
  · exact h j x hx
  · cases hx
theorem add_at (b o j : Nat) : (⟨b, o, none⟩ : Addr).add j = ⟨b, o + j, none⟩ := by unfold Addr.add; split <;> simp_all
theorem run_cells {b base k : Nat} {xs : List Value} (h : CellsAt w b base xs) (hk : k = xs.length) : (loadCells ⟨b, base, none⟩ k).run P w = .ok xs.toArray w := by
  subst hk; exact run_loadCells_list w _ xs fun j v hv => by rw [add_at]; exact h j v hv
theorem run_load1 {b base : Nat} {x : Value} (h : w.cell? ⟨b, base, none⟩ = some x) : (load ⟨b, base, none⟩).run P w = .ok x w := by simp [h]
/-- A variable that lies in known cells. -/
theorem run_loadVar {t : TypeId} {m : Option Nat} {b base : Nat} {xs : List Value} (ht : loadN P t = some m) (h : CellsAt w b base xs) :
    match m with
    | none => ∀ x, xs[0]? = some x → (loadVar t ⟨b, base, none⟩).run P w = .ok x w
    | some k => k ≤ xs.length → (loadVar t ⟨b, base, none⟩).run P w = .ok (.agg ⟨xs.take k⟩) w := by
  obtain ⟨h1, h2, h3⟩ := loadN_agg w ht
  cases m with
  | none => intro x hx; have := h 0 x hx; simp only [loadVar, Sem.run_bind, h1, Result.andThen_ok, Option.isSome, Bool.false_eq_true, if_false]; exact run_load1 this
  | some k =>
    intro hk
    have hk' := h3 k rfl
    simp only [loadVar, Sem.run_bind, h1, Result.andThen_ok, Option.isSome, if_true, h2, ← hk']
    rw [run_cells (h.take k) (by simp [Nat.min_eq_left hk])]
    simp
end
section
variable {P : Program} {objs : Objs} {B : Nat → Prop} {G : Gm} {w : World} {ρ : Rho} {fr : Fr} {env : List AV} {a : Act}
/-- A list of values for places that are known one by one. -/
theorem list_of {O : Bl} {n : Nat → Prop} {c : List AV} {f : Nat → Option Value} (h : ∀ (j : Nat) (v : AV), c[j]? = some v → ∃ x, f j = some x ∧ CellV x ∧ R w O G n v x) :
    ∃ xs : List Value, RL w O G n c xs ∧ AllCell xs ∧ ∀ (j : Nat) (x : Value), xs[j]? = some x → f j = some x := by
  induction c generalizing f with
  | nil => exact ⟨[], .nil, by intro x hx; simp at hx, by simp⟩
  | cons v c ih =>
    obtain ⟨x, hx, hv, hr⟩ := h 0 v (by simp)
    obtain ⟨xs, h1, h2, h3⟩ := ih (f := fun j => f (j + 1)) fun j v hv => h (j + 1) v (by simpa using hv)
    refine ⟨x :: xs, .cons hr h1, fun y hy => ?_, fun j y hy => ?_⟩
    · rcases List.mem_cons.1 hy with rfl | hy
      · exact hv
      · exact h2 y hy
    · cases j with
      | zero => simp at hy; subst hy; exact hx
      | succ j => exact h3 j y (by simpa using hy)
theorem elemO_view {o : Ob} {i : Nat} {c : List AV} (h : elemO o i = some c) : ∃ es, (view o = some es) ∧ es[i]? = some c := by
  cases o with
  | pr es =>
    simp only [elemO, ob_some, nth_eq, mapL_eq] at h
    obtain ⟨d, hd, e⟩ := h
    cases e
    exact ⟨es.map (·.map .p), by simp [view, show mapL AV.p = List.map AV.p from funext fun l => mapL_eq _ l], by simp [hd]⟩
  | cells es => exact ⟨es, rfl, by simpa [elemO] using h⟩
  | pmap m => simp [elemO] at h
  | map m => simp [elemO] at h
  | dead => simp [elemO] at h
theorem view_row {o : Ob} {es : List (List AV)} {O : Bl} {l : Loc} (h : view o = some es) (hr : ORel w O G l o) : Row w O G l es := by
  cases o with
  | pr es' => simp [view, show mapL AV.p = List.map AV.p from funext fun l => mapL_eq _ l] at h; subst h; exact hr
  | cells es' => simp [view] at h; subst h; exact hr
  | pmap m => simp [view] at h
  | map m => simp [view] at h
  | dead => simp [view] at h
theorem view_alive {o : Ob} {es : List (List AV)} (h : view o = some es) : o ≠ .dead := by rintro rfl; simp [view] at h
theorem refsL_mapp (c : List PV) : refsL (c.map .p) = [] := by induction c with
  | nil => rfl
  | cons v c ih => simp [ih]
theorem view_refs {o : Ob} {es : List (List AV)} (h : view o = some es) {i : Nat} {c : List AV} (hc : es[i]? = some c) {r : Nat} (hr : r ∈ refsL c) : r ∈ refsO o := by
  cases o with
  | pr es' =>
    simp [view, show mapL AV.p = List.map AV.p from funext fun l => mapL_eq _ l] at h; subst h
    simp only [List.getElem?_map, Option.map_eq_some_iff] at hc
    obtain ⟨d, hd, rfl⟩ := hc
    rw [refsL_mapp] at hr; cases hr
  | cells es' =>
    simp [view] at h; subst h
    exact refsLL_get hc hr
  | pmap m => simp [view] at h
  | map m => simp [view] at h
  | dead => simp [view] at h
/-- An element of an object, and the cells in which it lies. -/
theorem elem_at (hS : St objs B G w) {id i : Nat} {o : Ob} {c : List AV} (ho : getO id objs = some o) (hc : elemO o i = some c) :
    ∃ xs, RL w (Own objs G) G B c xs ∧ AllCell xs ∧ c.length = (G id).s ∧ CellsAt w (G id).b ((G id).o + i * (G id).s) xs := by
  obtain ⟨es, h1, h2⟩ := elemO_view hc
  have hal : Alive objs id o := ⟨ho, view_alive h1⟩
  obtain ⟨cs, e, hb, hpos, hsz, hcell⟩ := view_row h1 (hS.rel id o hal)
  obtain ⟨hlen, hcs⟩ := hcell i c h2
  obtain ⟨xs, k1, k2, k3⟩ := list_of (f := fun j => cs[(G id).o + i * (G id).s + j]?) (n := B) fun j v hv => by
    obtain ⟨x, hx, hv', hr⟩ := hcs j v hv
    exact ⟨x, hx, hv', hr, fun r hr' => hS.refs id o hal r (view_refs h1 h2 (refsL_get hv hr'))⟩
  refine ⟨xs, k1, k2, hlen, fun j x hx => ?_⟩
  have := k3 j x hx
  unfold World.cell?
  rw [hb]
  simpa using this
theorem fz_elem {O : Bl} {n : Nat → Prop} {es : List (List PV)} {b base s i : Nat} {c : List PV} (h : Fz w O es b base s) (hc : es[i]? = some c) :
    ∃ xs, RL w O G n (c.map .p) xs ∧ AllCell xs ∧ c.length = s ∧ CellsAt w b (base + i * s) xs := by
  obtain ⟨xs, k1, k2, k3⟩ := list_of (w := w) (G := G) (O := O) (n := n) (c := c.map .p) (f := fun j => w.cell? ⟨b, base + i * s + j, none⟩) fun j v hv => by
    simp only [List.getElem?_map, Option.map_eq_some_iff] at hv
    obtain ⟨q, hq, rfl⟩ := hv
    obtain ⟨x, hx, hv, hr⟩ := h.at_ i j c q hc hq
    exact ⟨x, hx, hv, R.p hr⟩
  exact ⟨xs, k1, k2, h.len i c hc, k3⟩
/-- A load through a related pointer. -/
theorem loadA_ok (hS : St objs B G w) {t : TypeId} {m : Option Nat} {v u : AV} {x : Value} (ht : loadN P t = some m) (h : R w (Own objs G) G B v x) (hu : loadA objs m v = some u) :
    ∃ y ad, x = .pointer (some ad) ∧ (loadVar t ad).run P w = .ok y w ∧ R w (Own objs G) G B u y := by
  obtain ⟨h, hb⟩ := h
  cases h <;> try (simp [loadA] at hu; done)
  case ptr id i off =>
    simp only [loadA, ob_some] at hu
    obtain ⟨o, ho, c, hc, hu⟩ := hu
    obtain ⟨xs, k1, k2, k3, k4⟩ := elem_at hS ho hc
    simp only [dropN_eq] at hu
    have hm := mkVal_ok (k1.drop off) (fun y hy => k2 y (List.mem_of_mem_drop hy)) hu
    have hl := run_loadVar (P := P) ht (k4.drop off)
    cases m with
    | none => obtain ⟨y, hy, hr⟩ := hm; exact ⟨y, _, rfl, hl y hy, hr⟩
    | some k => obtain ⟨hk, hr⟩ := hm; exact ⟨_, _, rfl, hl hk, hr⟩
  case fptr es i off b base s h =>
    simp only [loadA, ob_some, nth_eq] at hu
    obtain ⟨c, hc, hu⟩ := hu
    obtain ⟨xs, k1, k2, k3, k4⟩ := fz_elem (G := G) (n := B) h hc
    have hl := run_loadVar (P := P) ht (k4.drop off)
    cases m with
    | none =>
      simp only [ob_some] at hu
      obtain ⟨q, hq, hu⟩ := hu
      cases hu
      obtain ⟨y, hy, hr⟩ := k1.get (i := off) (v := .p q) (by simp [hq])
      exact ⟨y, _, rfl, hl y (by simpa using hy), hr⟩
    | some k =>
      simp only [bf_some, takeN_eq, dropN_eq, len_eq] at hu
      obtain ⟨h1, h2⟩ := hu
      cases h2
      have hle : off + k ≤ c.length := Nat.le_of_ble_eq_true h1
      have hlx : xs.length = c.length := by rw [← k1.1]; simp
      have hk : k ≤ (xs.drop off).length := by simp [hlx]; omega
      refine ⟨_, _, rfl, hl hk, R.p (.agg _ _ (by simp [hlx]) (fun i y hy => k2 y (List.mem_of_mem_drop (List.mem_of_mem_take (List.mem_of_getElem? hy)))) fun i q y hq hy => ?_)⟩
      have := ((k1.drop off).take k).2 i (.p q) y (by rw [← List.map_drop, ← List.map_take, List.getElem?_map, hq]; rfl) hy
      cases this.1; assumption
end
end Go.Ab
namespace Go.Ab
set_option maxRecDepth 8000
set_option linter.unusedVariables false
set_option linter.unusedSimpArgs false
section
variable {P : Program} {objs : Objs} {B : Nat → Prop} {G : Gm} {w : World} {ρ : Rho} {fr : Fr} {env : List AV} {a : Act}
/-- What is shown of an operation: it yields a related value and leaves the world. -/
def Yes (P : Program) (objs : Objs) (B : Nat → Prop) (G : Gm) (w : World) (s : Sem Next) (v : AV) : Prop := ∃ x, s.run P w = .ok (.value x) w ∧ R w (Own objs G) G B v x
theorem Yes.of {s : Sem Value} {v : AV} {x : Value} (h : s.run P w = .ok x w) (hr : R w (Own objs G) G B v x) : Yes P objs B G w (do pure (.value (← s))) v :=
  ⟨x, by simp [h], hr⟩
theorem fieldOf_some {t : TypeId} {i : Nat} {q : Nat × Nat × Option Nat} (h : fieldOf P t i = some q) :
    ∃ fs f, P.underlying t = some (.struct fs) ∧ fs[i]? = some f ∧ P.cellsOf f.type ≠ 0 ∧ f.offset = q.1 ∧ P.cellsOf f.type = q.2.1 ∧ loadN P f.type = some q.2.2 := by
  unfold fieldOf at h
  split at h <;> try (cases h; done)
  rename_i fs hu
  split at h <;> try (cases h; done)
  rename_i f hf
  split at h <;> try (cases h; done)
  rename_i h0
  split at h <;> try (cases h; done)
  rename_i m hm
  cases h
  exact ⟨fs, f, hu, hf, h0, rfl, rfl, hm⟩
theorem ptrCases_some {α : Type} {v : AV} {f : Nat → Nat → Nat → Option α} {g : List (List PV) → Nat → Nat → Option α} {r : α} (h : ptrCases v f g = some r) :
    (∃ id i o, v = .ptr id i o ∧ f id i o = some r) ∨ (∃ es i o, v = .fptr es i o ∧ g es i o = some r) := by
  cases v <;> first | exact .inl ⟨_, _, _, rfl, h⟩ | exact .inr ⟨_, _, _, rfl, h⟩ | (simp [ptrCases] at h)
theorem ok_fieldA (hc : Cx ρ fr env a w (Own objs G) G B) {t : TypeId} {x : Operand} {i : Nat} {q : Nat × Nat × Option Nat} {o : Opd} {v : AV} (hq : fieldOf P t i = some q) (hx : opdC ρ x = some o)
    (he : evP (.fieldA q.1 o) fr env objs = some v) : ∃ y, (Instr.fieldAt t (a.eval x) i).run P w = .ok y w ∧ R w (Own objs G) G B v y := by
  obtain ⟨fs, f, hu, hf, h0, ho, hn, hm⟩ := fieldOf_some hq
  simp only [evP, ob_some] at he
  obtain ⟨u, hu', he⟩ := he
  have hr := hc.opd hx hu'
  generalize a.eval x = xx at hr
  rcases ptrCases_some he with ⟨id, j, k, rfl, e⟩ | ⟨es, j, k, rfl, e⟩
  · cases e
    obtain ⟨hr, hb⟩ := hr
    cases hr
    refine ⟨_, ?_, AVRel.ptr id j (k + q.1), hb⟩
    simp [Instr.fieldAt, run_und w hu, hf, Instr.sureAddr, fieldPlace, run_size0 w h0, h0, ho, add_at, Nat.add_assoc]
  · cases e
    obtain ⟨hr, hb⟩ := hr
    cases hr
    rename_i b base s hfz
    refine ⟨_, ?_, AVRel.fptr es j (k + q.1) b base s hfz, hb⟩
    simp [Instr.fieldAt, run_und w hu, hf, Instr.sureAddr, fieldPlace, run_size0 w h0, h0, ho, add_at, Nat.add_assoc]
theorem ok_indexA (hc : Cx ρ fr env a w (Own objs G) G B) {t e : TypeId} {x i : Operand} {o o' : Opd} {v : AV} (hu : P.underlying t = some (.slice e)) (h0 : P.cellsOf e ≠ 0) (hx : opdC ρ x = some o) (hi : opdC ρ i = some o')
    (he : evP (.indexA (P.cellsOf e) o o') fr env objs = some v) : ∃ y, (Instr.indexAt t (a.eval x) (a.eval i)).run P w = .ok y w ∧ R w (Own objs G) G B v y := by
  simp only [evP, ob_some] at he
  obtain ⟨u, hu', j, hj, m, hm, he⟩ := he
  have hr := hc.opd hx hu'
  have hk := hc.opd hi hj
  obtain ⟨k, rfl⟩ := asN_some hm
  rw [hk.int]
  have fin : ∀ (b o' : Nat) (len cap : Nat), a.eval x = .slice (some ⟨b, o', none⟩) len cap → m < len → (Instr.indexAt t (a.eval x) (.int k (m : Int))).run P w = .ok (.pointer (some ⟨b, o' + m * P.cellsOf e, none⟩)) w := by
    intro b o' len cap hx hlt
    rw [hx]
    have h1 : (0 : Int) ≤ (m : Int) ∧ (m : Int) < (len : Int) := ⟨by omega, by omega⟩
    simp [Instr.indexAt, run_und w hu, asIntOf, run_size0 w h0, add_at, hlt]
  have frz : ∀ (es : List (List PV)) (aa : Option Addr) (cap : Nat), a.eval x = .slice aa es.length cap → (es = [] ∨ ∃ b base s, aa = some ⟨b, base, none⟩ ∧ Fz w (Own objs G) es b base s) → indexF (P.cellsOf e) es m = some v →
      ∃ y, (Instr.indexAt t (a.eval x) (.int k (m : Int))).run P w = .ok y w ∧ R w (Own objs G) G B v y := by
    intro es aa cap hx hfz hv
    simp only [indexF, ob_some, nth_eq, bf_some, len_eq] at hv
    obtain ⟨c, hc', hs, e'⟩ := hv
    cases e'
    have hlt := (List.getElem?_eq_some_iff.1 hc').1
    rcases hfz with rfl | ⟨b, base, s, rfl, hfz⟩
    · simp at hc'
    · have : s = P.cellsOf e := (hfz.len m c hc').symm.trans (Nat.eq_of_beq_eq_true hs)
      subst this
      exact ⟨_, fin b base _ cap hx hlt, by simpa using AVRel.fptr es m 0 b base _ hfz, by intro r hr; simp at hr⟩
  obtain ⟨hr, hb⟩ := hr
  cases u <;> try (simp [indexV] at he; done)
  case p q =>
    cases q <;> try (simp [indexV] at he; done)
    rename_i es
    cases hr with | p _ _ hr =>
    obtain ⟨aa, cap, hx, _, hfz⟩ := hr.fz_inv
    exact frz es aa cap hx hfz he
  case lit es =>
    generalize hxx : a.eval x = xx at hr
    cases hr with | lit _ aa hr =>
    obtain ⟨aa', cap, hx', _, hfz⟩ := hr.fz_inv
    cases hx'
    rw [← hxx]
    exact frz es _ _ hxx hfz he
  case row id s j' len =>
    simp only [indexV, bf_some] at he
    obtain ⟨hs, hlt, e'⟩ := he
    cases e'
    have hlt : m < len := Nat.le_of_ble_eq_true hlt
    have hs := Nat.eq_of_beq_eq_true hs
    generalize hxx : a.eval x = xx at hr
    cases hr with
    | row0 => exact absurd hlt (Nat.not_lt_zero _)
    | row _ _ _ _ cap c e' hs' hcap hb' hsz =>
    rw [← hxx]
    refine ⟨_, fin _ _ len cap hxx hlt, ?_, hb⟩
    have := AVRel.ptr (w := w) (O := Own objs G) (G := G) id (j' + m) 0
    rw [hs', ← hs, Nat.add_mul] at this
    rw [← hs, Nat.add_assoc, Nat.add_assoc] at *
    simpa using this
end
end Go.Ab
namespace Go.Ab
set_option maxRecDepth 8000
set_option linter.unusedVariables false
set_option linter.unusedSimpArgs false
section
variable {P : Program} {objs : Objs} {B : Nat → Prop} {G : Gm} {w : World} {ρ : Rho} {fr : Fr} {env : List AV} {a : Act}
theorem ok_indexAr (hc : Cx ρ fr env a w (Own objs G) G B) {t e : TypeId} {x i : Operand} {o o' : Opd} {v : AV} {l : Nat} (hu : P.underlying t = some (.array l e)) (hl : ¬ l ≤ 1) (he0 : ∃ i, P.info? e = some i) (hx : opdC ρ x = some o) (hi : opdC ρ i = some o')
    (he : evP (.indexAr l (P.cellsOf e) o o') fr env objs = some v) : ∃ y, (Instr.indexAt t (a.eval x) (a.eval i)).run P w = .ok y w ∧ R w (Own objs G) G B v y := by
  obtain ⟨inf, hinf⟩ := he0
  simp only [evP, ob_some, bf_some] at he
  obtain ⟨u, hu', j, hj, m, hm, hlt, he⟩ := he
  have hr := hc.opd hx hu'
  have hk := hc.opd hi hj
  obtain ⟨k, rfl⟩ := asN_some hm
  rw [hk.int]
  have hlt : m < l := Nat.le_of_ble_eq_true hlt
  generalize a.eval x = xx at hr
  obtain ⟨hr, hb⟩ := hr
  rcases ptrCases_some he with ⟨id, j', k', rfl, e'⟩ | ⟨es, j', k', rfl, e'⟩
  · cases e'
    cases hr
    refine ⟨_, ?_, AVRel.ptr id j' (k' + m * P.cellsOf e), hb⟩
    simp [Instr.indexAt, run_und w hu, asIntOf, Instr.sureAddr, run_size w hinf, add_at, hlt, Nat.add_assoc]
  · cases e'
    cases hr
    rename_i b base s hfz
    refine ⟨_, ?_, AVRel.fptr es j' (k' + m * P.cellsOf e) b base s hfz, hb⟩
    simp [Instr.indexAt, run_und w hu, asIntOf, Instr.sureAddr, run_size w hinf, add_at, hlt, Nat.add_assoc]
theorem str_size {b : ByteArray} {s : List Nat} (h : b.data.toList.map UInt8.toNat = s) : b.size = s.length := by rw [← h]; simp
theorem str_get {b : ByteArray} {s : List Nat} (h : b.data.toList.map UInt8.toNat = s) {i c : Nat} (hi : s[i]? = some c) : ∃ h : i < b.size, (b[i]'h).toNat = c := by
  subst h
  simp only [List.getElem?_map, Option.map_eq_some_iff] at hi
  obtain ⟨q, hq, rfl⟩ := hi
  have hlt : i < b.data.toList.length := (List.getElem?_eq_some_iff.1 hq).1
  refine ⟨by simpa using hlt, ?_⟩
  have := (List.getElem?_eq_some_iff.1 hq).2
  rw [← this]
  rfl
theorem ok_index (hc : Cx ρ fr env a w (Own objs G) G B) {t : TypeId} {x i : Operand} {o o' : Opd} {v : AV} (hu : P.underlying t = some .string) (hx : opdC ρ x = some o) (hi : opdC ρ i = some o')
    (he : evP (.index o o') fr env objs = some v) : ∃ y, (Instr.index t (a.eval x) (a.eval i)).run P w = .ok y w ∧ R w (Own objs G) G B v y := by
  simp only [evP, ob_some, nth_eq] at he
  obtain ⟨u, hu', s, hs, j, hj, m, hm, c, hcc, he⟩ := he
  cases he
  have hr := hc.opd hx hu'
  have hk := hc.opd hi hj
  obtain ⟨k, rfl⟩ := asN_some hm
  rw [asS_some hs] at hr
  obtain ⟨b, hb, hbs⟩ := hr.str
  obtain ⟨h1, h2⟩ := str_get hbs hcc
  rw [hk.int, hb]
  refine ⟨_, ?_, R.pi .u8 (Int.ofNat c)⟩
  rw [run_index_string w t b k m hu, dif_pos ⟨by omega, by omega⟩]
  simp only [Int.toNat_natCast, h2]
  rfl
theorem keq_eq {k l : IntKind} (h : keq k l = true) : k = l := by cases k <;> cases l <;> first | rfl | (exact absurd h (by decide))
theorem beqI_eq (x y : Int) : beqI x y = (x == y) := by
  cases x <;> cases y <;> simp [beqI] <;> (try (rw [Bool.eq_iff_iff]; simp [Nat.beq_eq_true_eq]; try omega))
theorem leI_eq (x y : Int) : leI x y = decide (x ≤ y) := by
  cases x <;> cases y <;> simp only [leI] <;> rw [Bool.eq_iff_iff] <;> simp [Nat.ble_eq] <;> omega
theorem nt_eq (b : Bool) : nt b = !b := by cases b <;> rfl
theorem eqBb_eq (x y : Bool) : eqBb x y = (x == y) := by cases x <;> cases y <;> rfl
theorem limI_all : limI .i8 = 128 ∧ limI .i16 = 32768 ∧ limI .i32 = 2147483648 ∧ limI .i64 = 9223372036854775808 ∧ limI .u8 = 256 ∧ limI .u16 = 65536 ∧ limI .u32 = 4294967296 ∧ limI .u64 = 18446744073709551616 := ⟨rfl, rfl, rfl, rfl, rfl, rfl, rfl, rfl⟩
theorem wrap_small (k : IntKind) (m : Nat) (h : m < limI k) : k.wrap (m : Int) = m := by
  cases k <;> simp only [limI_all] at h <;> simp only [IntKind.wrap, IntKind.bits, IntKind.signed, Bool.true_and, Bool.false_and, Bool.false_eq_true, if_false, decide_eq_true_eq, Nat.reduceSub, Int.reducePow] <;> first | omega | (split <;> rename_i hh <;> first | omega | (have hh := of_decide_eq_true hh; omega))
theorem wrap_uns (k : IntKind) (m : Nat) (h : uns k = true) : k.wrap (m : Int) = ((m % limI k : Nat) : Int) := by
  cases k <;> first | (cases h; done) | skip
  all_goals
    simp only [limI_all, IntKind.wrap, IntKind.bits, IntKind.signed, Bool.false_and, Bool.false_eq_true, if_false, Int.reducePow]
    omega
theorem wrapN_eq (k : IntKind) (x : Int) : wrapN k x = k.wrap x := by
  cases x with
  | negSucc m => rfl
  | ofNat m =>
    show bf (uns k) (Int.ofNat (m % limI k)) (bf (Nat.blt m (limI k)) (Int.ofNat m) (k.wrap (Int.ofNat m))) = _
    cases hu : uns k with
    | true => exact (wrap_uns k m hu).symm
    | false =>
      show bf (Nat.blt m (limI k)) (Int.ofNat m) (k.wrap (Int.ofNat m)) = _
      cases hb : Nat.blt m (limI k) with
      | false => rfl
      | true => exact (wrap_small k m (Nat.le_of_ble_eq_true hb)).symm
theorem wrap_sub (k : IntKind) (m n : Nat) (h : uns k = true) : k.wrap ((m : Int) - n) = (((m + (limI k - n % limI k)) % limI k : Nat) : Int) := by
  cases k <;> first | (cases h; done) | skip
  all_goals
    simp only [limI_all, IntKind.wrap, IntKind.bits, IntKind.signed, Bool.false_and, Bool.false_eq_true, if_false, Int.reducePow]
    omega
theorem subN_eq (k : IntKind) (x y : Int) : subN k x y = k.wrap (x - y) := by
  cases x with
  | negSucc m => exact (show subN k (Int.negSucc m) y = wrapN k (Int.negSucc m - y) from rfl).trans (wrapN_eq k _)
  | ofNat m =>
    cases y with
    | negSucc n => exact (show subN k (Int.ofNat m) (Int.negSucc n) = wrapN k (Int.ofNat m - Int.negSucc n) from rfl).trans (wrapN_eq k _)
    | ofNat n =>
      show bf (uns k) (Int.ofNat ((m + (limI k - n % limI k)) % limI k)) (wrapN k (Int.ofNat m - Int.ofNat n)) = _
      cases hu : uns k with
      | true => exact (wrap_sub k m n hu).symm
      | false => exact wrapN_eq k _
theorem subN_ok {w : World} {O : Bl} {G : Gm} {n : Nat → Prop} (k : IntKind) (x y : Int) : R w O G n (.p (.int k (subN k x y))) (.int k (k.wrap (x - y))) := by
  rw [subN_eq]; exact R.pi k _
theorem shrN_eq (x : Int) (n : Nat) : shrN x n = x.fdiv (2 ^ n) := by
  cases x with
  | negSucc m => rfl
  | ofNat m =>
    show ((m / 2 ^ n : Nat) : Int) = (m : Int).fdiv (2 ^ n)
    rw [Int.fdiv_eq_ediv_of_nonneg _ (by exact_mod_cast Nat.zero_le (2 ^ n))]
    simp
theorem wrapI_ok {w : World} {O : Bl} {G : Gm} {n : Nat → Prop} (k : IntKind) (x : Int) : R w O G n (wrapI k x) (.int k (k.wrap x)) := by
  unfold wrapI; rw [wrapN_eq]; exact R.pi k _
theorem binI_ok {op : BinOp} {t : TypeId} {x y : Operand} {k l : IntKind} {m p : Int} {v : AV} {O : Bl} {n : Nat → Prop} (he : binI op k m l p = some v) :
    ∃ z, (do eqGuard op t x y (.int k m) (.int l p); binOp op t (.int k m) (.int l p) : Sem Value).run P w = .ok z w ∧ R w O G n v z := by
  cases op <;> simp only [binI, bf_some, bf_some', ob_some, Option.some.injEq] at he
  case shl =>
    obtain ⟨q, hq, rfl⟩ := he
    rw [natOf_some hq]
    have h0 : ¬ ((q : Int) < 0) := by omega
    exact ⟨_, by simp [eqGuard, binOp, Op.shift, h0], wrapI_ok k _⟩
  case shr =>
    obtain ⟨q, hq, rfl⟩ := he
    rw [natOf_some hq]
    have h0 : ¬ ((q : Int) < 0) := by omega
    rw [shrN_eq]; exact ⟨_, by simp [eqGuard, binOp, Op.shift, h0], R.pi k _⟩
  case andNot => cases he
  all_goals
    obtain ⟨hk, he⟩ := he
    have hk := keq_eq hk
    subst hk
  case add => subst he; exact ⟨_, by simp [eqGuard, binOp, Op.intArith], wrapI_ok k _⟩
  case sub => subst he; exact ⟨.int k (k.wrap (m - p)), by simp [eqGuard, binOp, Op.intArith], subN_ok k m p⟩
  case mul => subst he; exact ⟨_, by simp [eqGuard, binOp, Op.intArith], wrapI_ok k _⟩
  case quo =>
    obtain ⟨h0, rfl⟩ := he
    rw [beqI_eq] at h0
    have h0 : p ≠ 0 := by simpa using h0
    exact ⟨_, by simp [eqGuard, binOp, Op.intDiv, h0], wrapI_ok k _⟩
  case rem =>
    obtain ⟨h0, rfl⟩ := he
    rw [beqI_eq] at h0
    have h0 : p ≠ 0 := by simpa using h0
    exact ⟨_, by simp [eqGuard, binOp, Op.intDiv, h0], R.pi k _⟩
  case and => subst he; exact ⟨_, by simp [eqGuard, binOp, Op.intBits], wrapI_ok k _⟩
  case or => subst he; exact ⟨_, by simp [eqGuard, binOp, Op.intBits], wrapI_ok k _⟩
  case xor => subst he; exact ⟨_, by simp [eqGuard, binOp, Op.intBits], wrapI_ok k _⟩
  case eql => subst he; exact ⟨.bool (m == p), by simp [eqGuard, binOp, Op.intCmp], by rw [beqI_eq]; exact R.pb _⟩
  case neq => subst he; exact ⟨.bool (m != p), by simp [eqGuard, binOp, Op.intCmp], by rw [nt_eq, beqI_eq]; exact R.pb _⟩
  case lss => subst he; exact ⟨.bool (decide (m < p)), by simp [eqGuard, binOp, Op.intCmp], by rw [nt_eq, leI_eq, ← decide_not]; simpa using R.pb _⟩
  case leq => subst he; exact ⟨.bool (decide (m ≤ p)), by simp [eqGuard, binOp, Op.intCmp], by rw [leI_eq]; exact R.pb _⟩
  case gtr => subst he; exact ⟨.bool (decide (p < m)), by simp [eqGuard, binOp, Op.intCmp], by rw [nt_eq, leI_eq, ← decide_not]; simpa using R.pb _⟩
  case geq => subst he; exact ⟨.bool (decide (p ≤ m)), by simp [eqGuard, binOp, Op.intCmp], by rw [leI_eq]; exact R.pb _⟩
theorem eqS_eq (s : List Nat) : ∀ t, eqS s t = (s == t) := by
  induction s with
  | nil => intro t; cases t <;> rfl
  | cons x s ih =>
    intro t
    cases t with
    | nil => rfl
    | cons y t =>
      show bf (Nat.beq x y) (eqS s t) false = _
      rw [ih, bf_and, Bool.eq_iff_iff]; simp [Nat.beq_eq]
theorem ltS_eq (s : List UInt8) : ∀ t : List UInt8, ltS (s.map UInt8.toNat) (t.map UInt8.toNat) = Op.bytesLess s t := by
  induction s with
  | nil => intro t; cases t <;> simp [ltS, Op.bytesLess]
  | cons x s ih =>
    intro t
    cases t with
    | nil => simp [ltS, Op.bytesLess]
    | cons y t =>
      show bf (Nat.blt x.toNat y.toNat) true (bf (Nat.beq x.toNat y.toNat) (ltS (s.map UInt8.toNat) (t.map UInt8.toNat)) false) = _
      rw [ih, bf_and]
      have h1 : Nat.blt x.toNat y.toNat = decide (x < y) := by
        rw [Bool.eq_iff_iff]; simp only [Nat.blt, Nat.ble_eq, decide_eq_true_eq, UInt8.lt_iff_toNat_lt]; omega
      have h2 : Nat.beq x.toNat y.toNat = (x == y) := by
        rw [Bool.eq_iff_iff]; simp only [Nat.beq_eq, beq_iff_eq, UInt8.toNat_inj]
      rw [h1, h2]
      simp only [Op.bytesLess]
      cases decide (x < y) <;> rfl
theorem map_toNat_inj {s t : List UInt8} : (s.map UInt8.toNat = t.map UInt8.toNat) ↔ s = t := by
  constructor
  · intro h
    induction s generalizing t with
    | nil => cases t <;> simp_all
    | cons x s ih => cases t with
      | nil => simp at h
      | cons y t => simp at h; rw [UInt8.toNat_inj.1 h.1, ih h.2]
  · rintro rfl; rfl
theorem eqS_bytes (b c : ByteArray) : eqS (b.data.toList.map UInt8.toNat) (c.data.toList.map UInt8.toNat) = (b.toList == c.toList) := by
  rw [eqS_eq, ByteArray.toList_eq, ByteArray.toList_eq, Bool.eq_iff_iff]; simp only [beq_iff_eq, map_toNat_inj]
theorem binS_ok {op : BinOp} {t : TypeId} {x y : Operand} {b c : ByteArray} {v : AV} {O : Bl} {n : Nat → Prop} (he : binS op (b.data.toList.map UInt8.toNat) (c.data.toList.map UInt8.toNat) = some v) :
    ∃ z, (do eqGuard op t x y (.string b) (.string c); binOp op t (.string b) (.string c) : Sem Value).run P w = .ok z w ∧ R w O G n v z := by
  cases op <;> simp only [binS, bf_some, Option.some.injEq] at he <;> try (cases he; done)
  case add =>
    obtain ⟨h1, rfl⟩ := he
    have h1 := Nat.le_of_ble_eq_true h1
    simp only [len_eq, List.length_map, Array.length_toList] at h1
    have h2 : (b.size : Int) + (c.size : Int) ≤ 9223372036854775807 := by
      have : b.size = b.data.size := rfl
      have : c.size = c.data.size := rfl
      omega
    refine ⟨.string (b ++ c), by simp [eqGuard, binOp, Op.stringOp, IntKind.max, IntKind.signed, IntKind.bits, h2], R.p (.str _ _ ?_)⟩
    simp
  case eql => subst he; exact ⟨.bool (b.toList == c.toList), by simp [eqGuard, binOp, Op.stringOp], by rw [eqS_bytes]; exact R.pb _⟩
  case neq => subst he; exact ⟨.bool (!(b.toList == c.toList)), by simp [eqGuard, binOp, Op.stringOp], by rw [nt_eq, eqS_bytes]; exact R.pb _⟩
  case lss => subst he; exact ⟨.bool (Op.bytesLess b.toList c.toList), by simp [eqGuard, binOp, Op.stringOp], by rw [ltS_eq, ← ByteArray.toList_eq, ← ByteArray.toList_eq]; exact R.pb _⟩
theorem eqOp_some {op : BinOp} {r : Bool} {v : AV} (h : eqOp op r = some v) : (op = .eql ∧ v = .p (.bool r)) ∨ (op = .neq ∧ v = .p (.bool (!r))) := by
  cases op <;> simp [eqOp, nt_eq] at h
  · exact .inl ⟨rfl, h.symm⟩
  · exact .inr ⟨rfl, h.symm⟩
end
end Go.Ab
namespace Go.Ab
set_option maxRecDepth 8000
set_option linter.unusedVariables false
set_option linter.unusedSimpArgs false
section
variable {P : Program} {objs : Objs} {B : Nat → Prop} {G : Gm} {w : World} {ρ : Rho} {fr : Fr} {env : List AV} {a : Act}
theorem eqBS_toList (b c : ByteArray) : (b == c) = (b.toList == c.toList) := beq_toListBytes b c
/-- The kind of a type's values. -/
def KindT (P : Program) (t : TypeId) (k : Nat) : Prop := (P.underlying t = some .bool ∧ k = 0) ∨ ((∃ i, P.underlying t = some (.int i)) ∧ k = 1) ∨ (P.underlying t = some .string ∧ k = 2)
theorem eq1_run {O : Bl} {p q : PV} {x y : Value} {t : TypeId} {r : Bool} {d : Nat} (hp : PRel w O p x) (hq : PRel w O q y) (h : eq1 p q = some r) (hk : KindT P t (kindP p)) :
    (Op.equalIn (d + 1) t x y).run P w = .ok r w := by
  cases hp with
  | bool b =>
    obtain ⟨c, hc, e⟩ := ob_some.1 (show ob (piB q) (fun y => some (eqBb b y)) = some r from h)
    rw [piB_some hc] at hq; cases hq
    cases e
    rcases hk with ⟨hu, _⟩ | ⟨_, hk⟩ | ⟨_, hk⟩
    · simp [Op.equalIn, run_und w hu, eqBb_eq]
    · simp [kindP] at hk
    · simp [kindP] at hk
  | int k m =>
    obtain ⟨c, hc, e⟩ := ob_some.1 (show ob (piI q) (fun y => bf (keq k y.1) (some (beqI m y.2)) none) = some r from h)
    rw [piI_some hc] at hq; cases hq
    rw [bf_some] at e
    obtain ⟨hk', e⟩ := e
    cases e
    have hk' := keq_eq hk'
    rcases hk with ⟨_, hk⟩ | ⟨⟨i, hu⟩, _⟩ | ⟨_, hk⟩
    · simp [kindP] at hk
    · simp [Op.equalIn, run_und w hu, hk', beqI_eq]
    · simp [kindP] at hk
  | str s b hs =>
    obtain ⟨c, hc, e⟩ := ob_some.1 (show ob (piS q) (fun y => some (eqS s y)) = some r from h)
    rw [piS_some hc] at hq
    cases hq with | str _ c' hc' =>
    cases e
    subst hs; subst hc'
    rcases hk with ⟨_, hk⟩ | ⟨_, hk⟩ | ⟨hu, _⟩
    · simp [kindP] at hk
    · simp [kindP] at hk
    · simp [Op.equalIn, run_und w hu, eqS_bytes, eqBS_toList]
  | fz0 => simp [eq1] at h
  | fz => simp [eq1] at h
  | agg => simp [eq1] at h
theorem eqK_cons {k : Nat} {ks : List Nat} {a b : List PV} {r : Bool} (h : eqK (k :: ks) a b = some r) :
    ∃ x l y m r1 r2, a = x :: l ∧ b = y :: m ∧ kindP x = k ∧ eq1 x y = some r1 ∧ eqK ks l m = some r2 ∧ r = (r1 && r2) := by
  cases a with
  | nil => cases h
  | cons x l =>
    cases b with
    | nil => cases h
    | cons y m =>
      have e : eqK (k :: ks) (x :: l) (y :: m) = bf (Nat.beq (kindP x) k) (ob (eq1 x y) fun r => ob (eqK ks l m) fun s => some (bf r s false)) none := rfl
      rw [e, bf_some] at h
      obtain ⟨h0, h⟩ := h
      obtain ⟨r1, h1, h⟩ := ob_some.1 h
      obtain ⟨r2, h2, h⟩ := ob_some.1 h
      cases h
      exact ⟨x, l, y, m, r1, r2, rfl, rfl, Nat.eq_of_beq_eq_true h0, h1, h2, bf_and⟩
theorem kindsF_cons {i : Nat} {f : Field} {l : List Field} {ks : List Nat} (h : kindsF P i (f :: l) = some ks) : ∃ k ks', ks = k :: ks' ∧ kindsF P (i + 1) l = some ks' ∧ f.offset = i ∧ f.name ≠ "_" ∧ KindT P f.type k := by
  unfold kindsF at h
  split at h <;> try (cases h; done)
  rename_i h0
  simp only [Bool.and_eq_true, beq_iff_eq, bne_iff_ne] at h0
  split at h <;> cases h
  · exact ⟨_, _, rfl, ‹_›, h0.1, h0.2, .inl ⟨‹_›, rfl⟩⟩
  · exact ⟨_, _, rfl, ‹_›, h0.1, h0.2, .inr (.inl ⟨⟨_, ‹_›⟩, rfl⟩)⟩
  · exact ⟨_, _, rfl, ‹_›, h0.1, h0.2, .inr (.inr ⟨‹_›, rfl⟩)⟩
theorem part_scalar {t : TypeId} {k : Nat} (hk : KindT P t k) {cs : Array Value} {o : Nat} {x : Value} (hx : cs[o]? = some x) : (part t cs o).run P w = .ok x w := by
  have : (isAgg t).run P w = .ok false w := by
    rcases hk with ⟨hu, _⟩ | ⟨⟨i, hu⟩, _⟩ | ⟨hu, _⟩ <;> simp [isAgg, run_und w hu]
  simp [part, this, hx]
theorem eqFields_run {O : Bl} : ∀ (fs : List Field) (i : Nat) (ks : List Nat) (a b : List PV) (xs ys : List Value) (pre pre' : List Value) (r : Bool) (d : Nat), kindsF P i fs = some ks → eqK ks a b = some r → pre.length = i → pre'.length = i →
    a.length = xs.length → b.length = ys.length → (∀ (j : Nat) (c : PV) (x : Value), a[j]? = some c → xs[j]? = some x → PRel w O c x) → (∀ (j : Nat) (c : PV) (x : Value), b[j]? = some c → ys[j]? = some x → PRel w O c x) →
    (Op.eqFields (d + 1) (pre ++ xs).toArray (pre' ++ ys).toArray fs).run P w = .ok r w
  | [], i, ks, a, b, xs, ys, pre, pre', r, d, hk, he, h1, h2, h3, h4, h5, h6 => by
    cases hk
    cases a <;> cases b <;> first | (cases he; done) | (cases he; simp [Op.eqFields])
  | f :: fs, i, ks, a, b, xs, ys, pre, pre', r, d, hk, he, h1, h2, h3, h4, h5, h6 => by
    obtain ⟨k, ks', rfl, hk', hoff, hname, hkt⟩ := kindsF_cons hk
    obtain ⟨x, l, y, m, r1, r2, rfl, rfl, hx, e1, e2, rfl⟩ := eqK_cons he
    cases xs with
    | nil => simp at h3
    | cons vx xs =>
    cases ys with
    | nil => simp at h4
    | cons vy ys =>
    have hpx : (part f.type (pre ++ vx :: xs).toArray f.offset).run P w = .ok vx w := part_scalar hkt (by simp [hoff, ← h1])
    have hpy : (part f.type (pre' ++ vy :: ys).toArray f.offset).run P w = .ok vy w := part_scalar hkt (by simp [hoff, ← h2])
    have he1 := eq1_run (P := P) (t := f.type) (d := d) (h5 0 x vx (by simp) (by simp)) (h6 0 y vy (by simp) (by simp)) e1 (by rw [hx]; exact hkt)
    have ih := eqFields_run fs (i + 1) ks' l m xs ys (pre ++ [vx]) (pre' ++ [vy]) r2 d hk' e2 (by simp [h1]) (by simp [h2]) (by simpa using h3) (by simpa using h4)
      (fun j c x hc hx => h5 (j + 1) c x (by simpa using hc) (by simpa using hx)) (fun j c x hc hx => h6 (j + 1) c x (by simpa using hc) (by simpa using hx))
    simp only [List.append_assoc, List.singleton_append] at ih
    simp only [Op.eqFields, ne_eq, hname, not_false_eq_true, if_true, Sem.run_bind, hpx, hpy, he1, Result.andThen_ok, Sem.run_ite, ih]
    cases r1 <;> simp
theorem ok_eqT (hc : Cx ρ fr env a w (Own objs G) G B) {t : TypeId} {x y : Operand} {o o' : Opd} {v : AV} {op : BinOp} {ks : List Nat} {fs : Array Field} (hu : P.underlying t = some (.struct fs)) (hs : P.stoodInHeld t = false) (hg : P.eqGuardType P.depth t = false)
    (hks : kindsF P 0 fs.toList = some ks) (hx : opdC ρ x = some o) (hy : opdC ρ y = some o') (he : evP (.eqT ks op o o') fr env objs = some v) :
    ∃ z, (do eqGuard op t x y (a.eval x) (a.eval y); binOp op t (a.eval x) (a.eval y) : Sem Value).run P w = .ok z w ∧ R w (Own objs G) G B v z := by
  simp only [evP, ob_some] at he
  obtain ⟨u, hu1, u', hu2, p, hp, p', hp', q, hq, q', hq', r, hr, he⟩ := he
  have h1 := hc.opd hx hu1
  have h2 := hc.opd hy hu2
  have hpa : p = .agg p' := by cases p <;> simp [piA] at hp'; rw [hp']
  have hqa : q = .agg q' := by cases q <;> simp [piA] at hq'; rw [hq']
  rw [asP_some hp, hpa] at h1
  rw [asP_some hq, hqa] at h2
  generalize a.eval x = xx at h1 ⊢
  generalize a.eval y = yy at h2 ⊢
  cases h1.1 with | p _ _ k1 =>
  cases h2.1 with | p _ _ k2 =>
  cases k1 with | agg _ xs hl1 hv1 k1 =>
  cases k2 with | agg _ ys hl2 hv2 k2 =>
  have hf : P.fieldsOf t = fs := by simp [Program.fieldsOf, hu]
  have hE : (Op.equalIn 10000 t (.agg ⟨xs⟩) (.agg ⟨ys⟩)).run P w = .ok r w := by
    rw [run_equalIn_struct w 9999 t _ _ (by rw [hf]; exact hu) hs, hf]
    have := eqFields_run (P := P) (w := w) (O := Own objs G) fs.toList 0 ks p' q' xs ys [] [] r 9998 hks hr rfl rfl hl1 hl2 k1 k2
    simpa using this
  have hG : (eqGuard op t x y (.agg ⟨xs⟩) (.agg ⟨ys⟩)).run P w = .ok () w := run_eqGuard_agg w op t x y _ _ hg
  rcases eqOp_some he with ⟨rfl, rfl⟩ | ⟨rfl, rfl⟩
  · exact ⟨_, by simp [hG, run_eql_struct, hE], R.pb r⟩
  · exact ⟨_, by simp [hG, run_neq_struct, hE], R.pb _⟩
theorem ok_bin (hc : Cx ρ fr env a w (Own objs G) G B) {t : TypeId} {x y : Operand} {o o' : Opd} {v : AV} {op : BinOp} (hx : opdC ρ x = some o) (hy : opdC ρ y = some o') (he : evP (.bin 0 op o o') fr env objs = some v) :
    ∃ z, (do eqGuard op t x y (a.eval x) (a.eval y); binOp op t (a.eval x) (a.eval y) : Sem Value).run P w = .ok z w ∧ R w (Own objs G) G B v z := by
  simp only [evP, ob_some] at he
  obtain ⟨u, hu1, u', hu2, he⟩ := he
  have he : ob (asP u) (fun a => ob (asP u') fun b => binIS op a b) = some v := he
  simp only [ob_some] at he
  obtain ⟨p, hp, q, hq, he⟩ := he
  have h1 := hc.opd hx hu1
  have h2 := hc.opd hy hu2
  rw [asP_some hp] at h1
  rw [asP_some hq] at h2
  cases p with
  | int k m =>
    obtain ⟨c, hc', he⟩ := ob_some.1 (show ob (piI q) (fun y => binI op k m y.1 y.2) = some v from he)
    rw [piI_some hc'] at h2
    rw [h1.int, h2.int]
    exact binI_ok he
  | str s =>
    obtain ⟨c, hc', he⟩ := ob_some.1 (show ob (piS q) (fun y => binS op s y) = some v from he)
    rw [piS_some hc'] at h2
    obtain ⟨b, hb, rfl⟩ := h1.str
    obtain ⟨b', hb', rfl⟩ := h2.str
    rw [hb, hb']
    exact binS_ok he
  | bool b => cases he
  | fz es => cases he
  | agg cs => cases he
theorem run_eqv {O : Bl} {n : Nat → Prop} {t : TypeId} {x y : Operand} {p q : Value} {r : Bool} {v : AV} (op : BinOp) (hb : binOp op t p q = (do pure (.bool (← Op.equal t p q)))) (hE : (Op.equal t p q).run P w = .ok r w) (hr : R w O G n v (.bool r)) (hG : (eqGuard op t x y p q).run P w = .ok () w) :
    ∃ z, (do eqGuard op t x y p q; binOp op t p q : Sem Value).run P w = .ok z w ∧ R w O G n v z := ⟨_, by simp only [Sem.run_bind, hG, Result.andThen_ok, hb, hE, Sem.run_pure], hr⟩
theorem run_nev {O : Bl} {n : Nat → Prop} {t : TypeId} {x y : Operand} {p q : Value} {r : Bool} {v : AV} (op : BinOp) (hb : binOp op t p q = (do pure (.bool (!(← Op.equal t p q))))) (hE : (Op.equal t p q).run P w = .ok r w) (hr : R w O G n v (.bool (!r))) (hG : (eqGuard op t x y p q).run P w = .ok () w) :
    ∃ z, (do eqGuard op t x y p q; binOp op t p q : Sem Value).run P w = .ok z w ∧ R w O G n v z := ⟨_, by simp only [Sem.run_bind, hG, Result.andThen_ok, hb, hE, Sem.run_pure], hr⟩
theorem ok_bin1 (hc : Cx ρ fr env a w (Own objs G) G B) {t : TypeId} {x y : Operand} {o o' : Opd} {v : AV} {op : BinOp} (hu : P.underlying t = some .bool) (hx : opdC ρ x = some o) (hy : opdC ρ y = some o') (he : evP (.bin 1 op o o') fr env objs = some v) :
    ∃ z, (do eqGuard op t x y (a.eval x) (a.eval y); binOp op t (a.eval x) (a.eval y) : Sem Value).run P w = .ok z w ∧ R w (Own objs G) G B v z := by
  simp only [evP, ob_some] at he
  obtain ⟨u, hu1, u', hu2, he⟩ := he
  have he : ob (asB u) (fun a => ob (asB u') fun b => eqOp op (eqBb a b)) = some v := he
  simp only [ob_some] at he
  obtain ⟨p, hp, q, hq, he⟩ := he
  have h1 := hc.opd hx hu1
  have h2 := hc.opd hy hu2
  rw [asB_some hp] at h1
  rw [asB_some hq] at h2
  rw [h1.bool, h2.bool]
  have hE : (Op.equal t (.bool p) (.bool q)).run P w = .ok (p == q) w := run_equalIn_bool' w 9999 t p q hu
  rcases eqOp_some he with ⟨rfl, rfl⟩ | ⟨rfl, rfl⟩
  · exact run_eqv _ rfl hE (by rw [eqBb_eq]; exact R.pb _) (by simp [eqGuard])
  · exact run_nev _ rfl hE (by rw [eqBb_eq]; exact R.pb _) (by simp [eqGuard])
theorem nilI_some {v : AV} {q : Nat × Bool} (h : nilI v = some q) : (q = (1, true) ∧ v = .nilp) ∨ (q = (0, true) ∧ v = .nili) ∨ (q = (0, false) ∧ ∃ t u, v = .iface t u) ∨ (q = (1, false) ∧ ((∃ id i o, v = .ptr id i o) ∨ ∃ es i o, v = .fptr es i o)) := by
  cases v <;> simp [nilI] at h
  · subst h; exact .inr (.inr (.inr ⟨rfl, .inl ⟨_, _, _, rfl⟩⟩))
  · subst h; exact .inr (.inr (.inr ⟨rfl, .inr ⟨_, _, _, rfl⟩⟩))
  · subst h; exact .inl ⟨rfl, rfl⟩
  · subst h; exact .inr (.inr (.inl ⟨rfl, _, _, rfl⟩))
  · subst h; exact .inr (.inl ⟨rfl, rfl⟩)
theorem bin_nil {k : Nat} {op : BinOp} {x y : AV} {v : AV} (h : binA (k + 2) op x y = some v) : ∃ p q, nilI x = some p ∧ nilI y = some q ∧ p.1 = k ∧ q.1 = k ∧ q.2 = true ∧ eqOp op p.2 = some v := by
  have h : ob (nilI x) (fun a => ob (nilI y) fun b => bf (Nat.beq a.1 k) (bf (Nat.beq b.1 k) (bf b.2 (eqOp op a.2) none) none) none) = some v := h
  simp only [ob_some, bf_some] at h
  obtain ⟨p, hp, q, hq, h1, h2, h3, h4⟩ := h
  exact ⟨p, q, hp, hq, Nat.eq_of_beq_eq_true h1, Nat.eq_of_beq_eq_true h2, h3, h4⟩
theorem bin_end {O : Bl} {n : Nat → Prop} {t : TypeId} {x y : Operand} {p q : Value} {r : Bool} {v : AV} {op : BinOp} (hv : eqOp op r = some v) (hb : binOp .eql t p q = (do pure (.bool (← Op.equal t p q)))) (hb' : binOp .neq t p q = (do pure (.bool (!(← Op.equal t p q))))) (hE : (Op.equal t p q).run P w = .ok r w)
    (hG : ∀ op, (eqGuard op t x y p q).run P w = .ok () w) : ∃ z, (do eqGuard op t x y p q; binOp op t p q : Sem Value).run P w = .ok z w ∧ R w O G n v z := by
  rcases eqOp_some hv with ⟨rfl, rfl⟩ | ⟨rfl, rfl⟩
  · exact run_eqv _ hb hE (R.pb _) (hG _)
  · exact run_nev _ hb' hE (R.pb _) (hG _)
theorem eqIn_nili (d : Nat) {t : TypeId} {ms : Array (String × TypeId)} (hu : P.underlying t = some (.interface ms)) : (Op.equalIn (d + 1) t .nilIface .nilIface).run P w = .ok true w := by simp [Op.equalIn, run_und w hu]
theorem eqIn_iface (d : Nat) {t u : TypeId} {x : Value} {ms : Array (String × TypeId)} (hu : P.underlying t = some (.interface ms)) : (Op.equalIn (d + 1) t (.iface u x) .nilIface).run P w = .ok false w := by simp [Op.equalIn, run_und w hu]
theorem eqIn_ptr (d : Nat) {t e : TypeId} {ad : Option Addr} (hu : P.underlying t = some (.pointer e)) : (Op.equalIn (d + 1) t (.pointer ad) (.pointer none)).run P w = .ok ad.isNone w := by cases ad <;> simp [Op.equalIn, run_und w hu]
theorem eqGuardIn_nili (d : Nat) {t : TypeId} {ms : Array (String × TypeId)} (hu : P.underlying t = some (.interface ms)) (hms : ms.isEmpty = true) : (Op.eqGuardIn (d + 1) t .nilIface .nilIface).run P w = .ok false w := by simp [Op.eqGuardIn, run_und w hu, hms]
/-- An interface without methods and nil. -/
theorem ok_bin2 (hc : Cx ρ fr env a w (Own objs G) G B) {t : TypeId} {x y : Operand} {o o' : Opd} {v : AV} {op : BinOp} {ms : Array (String × TypeId)}
    (hu : P.underlying t = some (.interface ms)) (hms : ms.isEmpty = true) (hx : opdC ρ x = some o) (hy : opdC ρ y = some o') (he : evP (.bin 2 op o o') fr env objs = some v) :
    ∃ z, (do eqGuard op t x y (a.eval x) (a.eval y); binOp op t (a.eval x) (a.eval y) : Sem Value).run P w = .ok z w ∧ R w (Own objs G) G B v z := by
  simp only [evP, ob_some] at he
  obtain ⟨u, hu1, u', hu2, he⟩ := he
  obtain ⟨p, q, hp, hq, h1, h2, h3, he⟩ := bin_nil he
  have k1 := (hc.opd hx hu1).1
  have k2 := (hc.opd hy hu2).1
  generalize a.eval x = xx at k1 ⊢
  generalize a.eval y = yy at k2 ⊢
  have hu' : u' = .nili := by rcases nilI_some hq with ⟨rfl, _⟩ | ⟨rfl, h⟩ | ⟨rfl, _⟩ | ⟨rfl, _⟩ <;> simp_all
  subst hu'
  cases k2
  rcases nilI_some hp with ⟨rfl, _⟩ | ⟨rfl, rfl⟩ | ⟨rfl, tt, uu, rfl⟩ | ⟨rfl, _⟩ <;> try (cases h1; done)
  · cases k1
    refine bin_end he rfl rfl ?_ fun op => ?_
    · exact eqIn_nili 9999 hu
    · have hgi : (Op.eqGuardIn Op.maxDepth t .nilIface .nilIface).run P w = .ok false w := eqGuardIn_nili 9999 hu hms
      unfold eqGuard
      cases op <;> simp [hgi]
  · cases k1
    refine bin_end he rfl rfl ?_ fun op => ?_
    · exact eqIn_iface 9999 hu
    · unfold eqGuard
      cases op <;> simp
/-- A pointer and nil. -/
theorem ok_bin3 (hc : Cx ρ fr env a w (Own objs G) G B) {t e : TypeId} {x y : Operand} {o o' : Opd} {v : AV} {op : BinOp}
    (hu : P.underlying t = some (.pointer e)) (hx : opdC ρ x = some o) (hy : opdC ρ y = some o') (he : evP (.bin 3 op o o') fr env objs = some v) :
    ∃ z, (do eqGuard op t x y (a.eval x) (a.eval y); binOp op t (a.eval x) (a.eval y) : Sem Value).run P w = .ok z w ∧ R w (Own objs G) G B v z := by
  simp only [evP, ob_some] at he
  obtain ⟨u, hu1, u', hu2, he⟩ := he
  obtain ⟨p, q, hp, hq, h1, h2, h3, he⟩ := bin_nil he
  have k1 := (hc.opd hx hu1).1
  have k2 := (hc.opd hy hu2).1
  generalize a.eval x = xx at k1 ⊢
  generalize a.eval y = yy at k2 ⊢
  have hu' : u' = .nilp := by rcases nilI_some hq with ⟨rfl, h⟩ | ⟨rfl, h⟩ | ⟨rfl, _⟩ | ⟨rfl, _⟩ <;> simp_all
  subst hu'
  cases k2
  have fin : ∀ (ad : Option Addr) (r : Bool), r = ad.isNone → eqOp op r = some v → ∃ z, (do eqGuard op t x y (.pointer ad) (.pointer none); binOp op t (.pointer ad) (.pointer none) : Sem Value).run P w = .ok z w ∧ R w (Own objs G) G B v z := by
    intro ad r hr he
    refine bin_end he rfl rfl ?_ fun op => ?_
    · rw [hr]; exact eqIn_ptr 9999 hu
    · unfold eqGuard
      cases op <;> simp
  rcases nilI_some hp with ⟨rfl, rfl⟩ | ⟨rfl, _⟩ | ⟨rfl, _⟩ | ⟨rfl, ⟨id, i, oo, rfl⟩ | ⟨es, i, oo, rfl⟩⟩ <;> try (cases h1; done)
  · cases k1; exact fin _ _ rfl he
  · cases k1; exact fin _ _ rfl he
  · cases k1; exact fin _ _ rfl he
end
end Go.Ab
namespace Go.Ab
set_option maxRecDepth 8000
set_option linter.unusedVariables false
set_option linter.unusedSimpArgs false
section
variable {P : Program} {objs : Objs} {B : Nat → Prop} {G : Gm} {w : World} {ρ : Rho} {fr : Fr} {env : List AV} {a : Act}
theorem cellsC_eq (v : AV) : cellsC v = cellsA v := by
  cases v with
  | p q => cases q <;> simp [cellsC, cellsA, cellsP]
  | _ => rfl
/-- The zero value of a type. -/
theorem zeroA_ok {t : TypeId} {z : List AV} (h : zeroA P t = some z) (w : World) (O : Bl) (G : Gm) (n : Nat → Prop) :
    ∃ i x, P.info? t = some i ∧ i.zero = some x ∧ RL w O G n z x.cells.toList ∧ AllCell x.cells.toList ∧ z.length = P.cellsOf t := by
  unfold zeroA at h
  split at h <;> try (cases h; done)
  rename_i i hi
  split at h <;> try (cases h; done)
  rename_i x hx
  split at h <;> try (cases h; done)
  rename_i v hv
  split at h <;> try (cases h; done)
  rename_i hc
  cases h
  simp only [Bool.and_eq_true, decide_eq_true_eq] at hc
  have hr : R w O G n v x := (ofValue_ok w O G 10 x v hv).mono0
  have hrl := cells_ok hr
  rw [← cellsC_eq] at hrl
  refine ⟨i, x, hi, hx, hrl, fun y hy => ?_, hc.2⟩
  obtain ⟨k, hk⟩ := List.mem_iff_getElem?.1 hy
  have hlt : k < (cellsC v).length := by rw [hrl.1]; exact (List.getElem?_eq_some_iff.1 hk).1
  have hg := List.getElem?_eq_getElem hlt
  exact cellC_ok (hrl.2 k _ y hg hk).1 (List.all_eq_true.1 hc.1 _ (List.getElem_mem hlt))
theorem foldl_put (vs : List Value) : ∀ (k off : Nat) (cs : Array Value), off + k + vs.length ≤ cs.size →
    ((vs.zipIdx k).foldl (fun cs (p : Value × Nat) => cs.setIfInBounds (off + p.2) p.1) cs).toList = cs.toList.take (off + k) ++ vs ++ cs.toList.drop (off + k + vs.length) := by
  induction vs with
  | nil => intro k off cs h; simp
  | cons v vs ih =>
    intro k off cs h
    simp only [List.zipIdx_cons, List.foldl_cons]
    rw [show off + k + (v :: vs).length = off + (k + 1) + vs.length by simp; omega] at *
    rw [ih (k + 1) off _ (by simpa using h)]
    have hlt : off + k < cs.toList.length := by simp only [Array.length_toList]; omega
    simp only [Array.toList_setIfInBounds]
    rw [List.drop_set_of_lt (by omega), show off + (k + 1) = off + k + 1 by omega, List.take_add_one, List.take_set_of_le (Nat.le_refl _)]
    have hlt' : off + k < cs.size := by simpa using hlt
    simp [List.getElem?_set, hlt']
theorem putAt_eq {α : Type} (c : List α) (off : Nat) (vs : List α) : putAt c off vs = c.take off ++ vs ++ c.drop (off + vs.length) := by simp [putAt]
theorem fill_ok {O : Bl} {n : Nat → Prop} {place : Nat → Option (Nat × Nat)} (hc : Cx ρ fr env a w O G n) : ∀ (ps : List (Nat × Operand)) (parts : List (Nat × Nat × Opd)) (cs us : List AV) (xs : Array Value),
    mapC (partC ρ place) ps = some parts → fillParts fr env parts cs = some us → RL w O G n cs xs.toList → AllCell xs.toList →
    ∃ ys, Instr.fill place xs (ps.map fun p => (p.1, a.eval p.2)) = some ys ∧ RL w O G n us ys.toList ∧ AllCell ys.toList
  | [], parts, cs, us, xs, hp, hf, hr, hx => by
    cases hp; cases hf
    exact ⟨xs, rfl, hr, hx⟩
  | (i, x) :: ps, parts, cs, us, xs, hp, hf, hr, hx => by
    rw [mapC_eq, mapO_cons] at hp
    obtain ⟨q, hq, hp⟩ := ob_some.1 hp
    obtain ⟨qs, hqs, hp⟩ := ob_some.1 hp
    cases hp
    obtain ⟨off, m, o⟩ := q
    unfold partC at hq
    split at hq <;> cases hq
    rename_i hpl ho
    have e : fillParts fr env ((off, m, o) :: qs) cs = ob (opd o fr env) fun v => bf (Nat.beq (len (cellsA v)) m) (bf (Nat.ble (off + m) (len cs)) (bf (allL isCell (cellsA v)) (fillParts fr env qs (putAt cs off (cellsA v))) none) none) none := rfl
    rw [e] at hf
    obtain ⟨v, hv, hf⟩ := ob_some.1 hf
    simp only [bf_some, len_eq, allL_eq] at hf
    obtain ⟨h1, h2, h3, hf⟩ := hf
    have h1 := Nat.eq_of_beq_eq_true h1
    have h2 := Nat.le_of_ble_eq_true h2
    have hrv := hc.opd ho hv
    have hcv := cells_ok hrv
    have hcell := cells_cell hrv h3
    have hsz : (a.eval x).cells.size = m := by rw [← h1, hcv.1]; simp
    have hle : off + (a.eval x).cells.size ≤ xs.size := by rw [hsz]; have := hr.1; simp at this; omega
    have hput := foldl_put (a.eval x).cells.toList 0 off xs (by simpa using hle)
    obtain ⟨ys, k1, k2, k3⟩ := fill_ok hc ps qs (putAt cs off (cellsA v)) us ((a.eval x).cells.zipIdx.foldl (fun cs (c, j) => cs.setIfInBounds (off + j) c) xs) (by rw [mapC_eq]; exact hqs) hf
      (by
        rw [← Array.foldl_toList, Array.toList_zipIdx]
        rw [show (List.foldl (fun cs (x : Value × Nat) => match x with | (c, j) => cs.setIfInBounds (off + j) c) xs (List.zipIdx (a.eval x).cells.toList)) = (List.foldl (fun cs (p : Value × Nat) => cs.setIfInBounds (off + p.2) p.1) xs (List.zipIdx (a.eval x).cells.toList 0)) from rfl, hput, putAt_eq]
        have hl : (cellsA v).length = (a.eval x).cells.toList.length := hcv.1
        rw [hl]
        simpa using ((hr.take off).append hcv).append (hr.drop (off + (a.eval x).cells.toList.length)))
      (by
        rw [← Array.foldl_toList, Array.toList_zipIdx]
        rw [show (List.foldl (fun cs (x : Value × Nat) => match x with | (c, j) => cs.setIfInBounds (off + j) c) xs (List.zipIdx (a.eval x).cells.toList)) = (List.foldl (fun cs (p : Value × Nat) => cs.setIfInBounds (off + p.2) p.1) xs (List.zipIdx (a.eval x).cells.toList 0)) from rfl, hput]
        intro y hy
        simp only [List.mem_append] at hy
        rcases hy with (hy | hy) | hy
        · exact hx y (List.mem_of_mem_take hy)
        · exact hcell y hy
        · exact hx y (List.mem_of_mem_drop hy))
    refine ⟨ys, ?_, k2, k3⟩
    simp only [List.map_cons, Instr.fill, hpl]
    rw [if_neg (by simp only [hsz, ne_eq, not_true, decide_false, Bool.false_or, decide_eq_true_eq, gt_iff_lt, Nat.not_lt]; omega)]
    exact k1
theorem ok_build (hc : Cx ρ fr env a w (Own objs G) G B) {t : TypeId} {ps : Array (Nat × Operand)} {z : List AV} {place : Nat → Option (Nat × Nat)} {parts : List (Nat × Nat × Opd)} {v : AV}
    (hz : zeroA P t = some z) (hpl : placesC P t = some place) (hp : mapC (partC ρ place) ps.toList = some parts) (he : evP (.build z parts) fr env objs = some v) :
    ∃ y, (Instr.build t (ps.map fun (i, x) => (i, a.eval x))).run P w = .ok y w ∧ R w (Own objs G) G B v y := by
  obtain ⟨i, x, hi, hx, hrl, hcell, _⟩ := zeroA_ok hz w (Own objs G) G B
  simp only [evP, ob_some] at he
  obtain ⟨us, hf, he⟩ := he
  cases he
  obtain ⟨ys, h1, h2, h3⟩ := fill_ok hc ps.toList parts z us x.cells hp hf hrl hcell
  refine ⟨_, run_build w t _ ys ?_, mkAgg_ok h2 h3⟩
  have e : (ps.map fun (p : Nat × Operand) => (p.1, a.eval p.2)).toList = ps.toList.map fun p => (p.1, a.eval p.2) := by simp
  unfold Program.built
  unfold placesC at hpl
  split at hpl <;> try (cases hpl; done)
  · rename_i len e' hu
    split at hpl <;> cases hpl
    rename_i inf hinf
    simp only [hi, hu, hx, hinf]
    rw [show (ps.map fun (x : Nat × Operand) => match x with | (i, x) => (i, a.eval x)) = ps.map fun (p : Nat × Operand) => (p.1, a.eval p.2) from rfl, e]
    exact h1
  · rename_i fs hu
    split at hpl <;> cases hpl
    rename_i l hl
    simp only [hi, hu, hx, hl]
    rw [show (ps.map fun (x : Nat × Operand) => match x with | (i, x) => (i, a.eval x)) = ps.map fun (p : Nat × Operand) => (p.1, a.eval p.2) from rfl, e]
    simpa using h1
theorem ok_extract (hc : Cx ρ fr env a w (Own objs G) G B) {x : Operand} {i : Nat} {o : Opd} {v : AV} (hx : opdC ρ x = some o) (he : evP (.extract o i) fr env objs = some v) :
    ∃ y, (Instr.extract (a.eval x) i).run P w = .ok y w ∧ R w (Own objs G) G B v y := by
  simp only [evP, ob_some, nth_eq] at he
  obtain ⟨u, hu, l, hl, he⟩ := he
  have hr := hc.opd hx hu
  generalize a.eval x = xx at hr ⊢
  obtain ⟨hr, hb⟩ := hr
  cases u <;> simp [asTup] at hl
  subst hl
  cases hr with | tup _ vs hlen h =>
  have hi : i < vs.length := by rw [← hlen]; exact (List.getElem?_eq_some_iff.1 he).1
  refine ⟨vs[i], by simp [Instr.extract, hi], h i v _ he (List.getElem?_eq_getElem hi), fun r hr => hb r (by rw [refs_tup]; exact refsL_get he hr)⟩
theorem aggCells_ok {O : Bl} {n : Nat → Prop} {v : AV} {x : Value} {cs : List AV} (h : R w O G n v x) (hc : aggCells v = some cs) : ∃ xs, x = .agg ⟨xs⟩ ∧ RL w O G n cs xs ∧ AllCell xs := by
  obtain ⟨h, hb⟩ := h
  cases h <;> try (simp [aggCells] at hc; done)
  case p q h =>
    obtain ⟨l, hl, e⟩ := ob_some.1 (show ob (piA q) (fun cs => some (mapL AV.p cs)) = some cs from hc)
    cases e
    cases h <;> simp [piA] at hl
    rename_i cs' vs hlen hv h
    subst hl
    exact ⟨vs, rfl, by simpa using RL.pure hlen h, fun y hy => by obtain ⟨k, hk⟩ := List.mem_iff_getElem?.1 hy; exact hv k y hk⟩
  case agg cs' vs hlen hv h =>
    simp [aggCells] at hc; subst hc
    exact ⟨vs, rfl, ⟨hlen, fun i v x h1 h2 => ⟨h i v x h1 h2, fun r hr => hb r (by rw [refs_agg]; exact refsL_get h1 hr)⟩⟩, fun y hy => by obtain ⟨k, hk⟩ := List.mem_iff_getElem?.1 hy; exact hv k y hk⟩
theorem ok_field (hc : Cx ρ fr env a w (Own objs G) G B) {t : TypeId} {x : Operand} {i qo qn : Nat} {qm : Option Nat} {o : Opd} {v : AV} (hq : fieldOf P t i = some (qo, qn, qm)) (hx : opdC ρ x = some o) (he : evP (.field qm qo o) fr env objs = some v) :
    ∃ y, (Instr.field t (a.eval x) i).run P w = .ok y w ∧ R w (Own objs G) G B v y := by
  obtain ⟨fs, f, hu, hf, h0, ho, hn, hm⟩ := fieldOf_some hq
  simp only [evP, ob_some, dropN_eq] at he
  obtain ⟨u, hu', cs, hcs, he⟩ := he
  obtain ⟨xs, hxx, hrl, hcell⟩ := aggCells_ok (hc.opd hx hu') hcs
  obtain ⟨h1, h2, h3⟩ := loadN_agg w hm
  rw [hxx]
  cases qm with
  | none =>
    obtain ⟨y, hy, hr⟩ := mkVal_ok (hrl.drop qo) (fun y hy => hcell y (List.mem_of_mem_drop hy)) he
    refine ⟨y, ?_, hr⟩
    have hy' : xs[qo]? = some y := by simpa using hy
    have h1 : (isAgg f.type).run P w = .ok false w := h1
    simp [Instr.field, run_und w hu, hf, asAgg, part, h1, ho, hy']
  | some k =>
    obtain ⟨hk, hr⟩ := mkVal_ok (hrl.drop qo) (fun y hy => hcell y (List.mem_of_mem_drop hy)) he
    refine ⟨_, ?_, hr⟩
    have hk' := h3 k rfl
    have h1 : (isAgg f.type).run P w = .ok true w := h1
    have ho : f.offset = qo := ho
    have e : (⟨xs⟩ : Array Value).extract qo (qo + k) = ⟨(xs.drop qo).take k⟩ := by
      apply Array.ext'
      simp [List.extract_eq_take_drop]
    simp [Instr.field, run_und w hu, hf, asAgg, part, h1, h2, ho, ← hk', e]
theorem ok_iface (hc : Cx ρ fr env a w (Own objs G) G B) {t : TypeId} {x : Operand} {o : Opd} {v : AV} {d : TypeDesc} (hu : P.underlying t = some d) (hd : ∀ ms, d ≠ .interface ms) (hx : opdC ρ x = some o) (he : evP (.mkiface t o) fr env objs = some v) :
    ∃ y, (Instr.makeInterface t (a.eval x)).run P w = .ok y w ∧ R w (Own objs G) G B v y := by
  simp only [evP, ob_some] at he
  obtain ⟨u, hu', he⟩ := he
  cases he
  have hr := hc.opd hx hu'
  refine ⟨.iface t (a.eval x), ?_, .iface t u _ hr.1, hr.2⟩
  cases d <;> first | (simp [Instr.makeInterface, run_und w hu]; done) | (exact absurd rfl (hd _))
theorem ok_fn (hc : Cx ρ fr env a w (Own objs G) G B) {f : Nat} {xs ys : Array Operand} {os ps : List Opd} {v : AV} (hx : mapC (opdC ρ) xs.toList = some os) (hy : mapC (opdC ρ) ys.toList = some ps) (he : evP (.mkfn f os ps) fr env objs = some v) :
    ∃ y, (Instr.makeFunc (.func f) (xs.map a.eval) (ys.map a.eval)).run P w = .ok y w ∧ R w (Own objs G) G B v y := by
  simp only [evP, ob_some] at he
  obtain ⟨us, hus, vs, hvs, he⟩ := he
  cases he
  have h1 := hc.opds hx hus
  have h2 := hc.opds hy hvs
  refine ⟨.func (.func f) ⟨xs.toList.map a.eval⟩ ⟨ys.toList.map a.eval⟩, ?_, .fn f us vs _ _ h1.1 h2.1 (fun i v x a b => (h1.2 i v x a b).1) (fun i v x a b => (h2.2 i v x a b).1), fun r hr => ?_⟩
  · simp only [Instr.makeFunc, Sem.run_pure]
    congr 2 <;> (apply Array.ext'; simp)
  · rw [refs_fn, List.mem_append] at hr
    rcases hr with hr | hr
    · exact h1.below r hr
    · exact h2.below r hr
theorem ok_nilCheck {x : Value} {u v : AV} {O : Bl} {n : Nat → Prop} (h : R w O G n u x) (he : okPtr u = some v) : v = u ∧ ((∃ ad, x = .pointer (some ad)) ∨ ∃ f xs ys, x = .func (.func f) xs ys) := by
  obtain ⟨h, hb⟩ := h
  cases h <;> simp [okPtr] at he
  · exact ⟨he.symm, .inl ⟨_, rfl⟩⟩
  · exact ⟨he.symm, .inl ⟨_, rfl⟩⟩
  · exact ⟨he.symm, .inr ⟨_, _, _, rfl⟩⟩
end
end Go.Ab
namespace Go.Ab
set_option maxRecDepth 8000
set_option linter.unusedVariables false
set_option linter.unusedSimpArgs false
section
variable {P : Program} {objs : Objs} {B : Nat → Prop} {G : Gm} {w : World} {ρ : Rho} {fr : Fr} {env : List AV} {a : Act}
theorem lenS_ok {O : Bl} {n : Nat → Prop} {m : Nat} {v : AV} {x : Value} (h : R w O G n v x) (hl : lenS v = some m) : ∃ ad cap, x = .slice ad m cap ∧ m ≤ cap := by
  obtain ⟨h, hb⟩ := h
  cases h <;> try (simp [lenS] at hl; done)
  case p q h =>
    cases q <;> simp [lenS] at hl
    obtain ⟨ad, cap, rfl, hle, _⟩ := h.fz_inv
    subst hl
    exact ⟨ad, cap, rfl, hle⟩
  case nils => simp [lenS] at hl; subst hl; exact ⟨none, 0, rfl, Nat.le_refl _⟩
  case lit es ad h => simp [lenS] at hl; subst hl; exact ⟨ad, _, rfl, Nat.le_refl _⟩
  case row id s i len cap c e hs hc hb' hcap => simp [lenS] at hl; subst hl; exact ⟨_, cap, rfl, hc⟩
  case row0 id s i ad => simp [lenS] at hl; subst hl; exact ⟨_, 0, rfl, Nat.le_refl _⟩
theorem mapCases_some {α : Type} {v : AV} {f : Nat → Option α} {g : Option α} {r : α} (h : mapCases v f g = some r) : (∃ id, v = .map id ∧ f id = some r) ∨ (v = .nilm ∧ g = some r) := by
  cases v <;> first | exact .inl ⟨_, rfl, h⟩ | exact .inr ⟨rfl, h⟩ | (simp [mapCases] at h)
/-- A map, as pairs of a pure key and a value. -/
theorem asMap_ok {α : Type} {id : Nat} {o : Ob} {f : List (PV × PV) → Option α} {g : List (PV × AV) → Option α} {r : α} (hS : St objs B G w) (ho : getO id objs = some o) (h : asMap o f g = some r) :
    (∃ l, o = .pmap l ∧ f l = some r ∧ MapAt w (Own objs G) G (G id).b (l.map fun p => (p.1, .p p.2))) ∨ (∃ l, o = .map l ∧ g l = some r ∧ MapAt w (Own objs G) G (G id).b l) := by
  cases o with
  | pmap l => exact .inl ⟨l, rfl, h, hS.rel id _ ⟨ho, by simp⟩⟩
  | map l => exact .inr ⟨l, rfl, h, hS.rel id _ ⟨ho, by simp⟩⟩
  | pr es => cases h
  | cells es => cases h
  | dead => cases h
def KeyD (d : TypeDesc) (kk : Nat) : Prop := (d = .string ∧ kk = 2) ∨ ((∃ k, d = .int k) ∧ kk = 1)
/-- The type of a map's keys, and their kind. -/
def KeyT (P : Program) (kt : TypeId) (kk : Nat) : Prop :=
  (∃ d, P.underlying kt = some d ∧ KeyD d kk) ∨ ∃ fs ks, P.underlying kt = some (.struct fs) ∧ P.stoodInHeld kt = false ∧ kindsF P 0 fs.toList = some ks ∧ (∀ k ∈ ks, k = 1) ∧ kk = 4 + ks.length
theorem keyK_some {t : TypeId} {kk : Nat} (h : keyK P t = some kk) : ∃ kt e, P.underlying t = some (.map kt e) ∧ KeyT P kt kk := by
  unfold keyK at h
  split at h <;> try (cases h; done)
  rename_i kt e hu
  split at h
  · cases h; exact ⟨kt, e, hu, .inl ⟨_, ‹_›, .inl ⟨rfl, rfl⟩⟩⟩
  · cases h; exact ⟨kt, e, hu, .inl ⟨_, ‹_›, .inr ⟨⟨_, rfl⟩, rfl⟩⟩⟩
  · rename_i fs hfs
    split at h <;> try (cases h; done)
    rename_i hst
    split at h <;> try (cases h; done)
    rename_i ks hks
    split at h <;> cases h
    rename_i hall
    exact ⟨kt, e, hu, .inr ⟨fs, ks, hfs, by simpa using hst, hks, by simpa using hall, rfl⟩⟩
  · cases h
theorem sameNow_ok {O : Bl} {d : TypeDesc} {p q : PV} {x y : Value} {r : Bool} (hd : KeyD d (kindP p)) (hp : PRel w O p x) (hq : PRel w O q y) (h : eq1 p q = some r) : Instr.sameNow d x y = some r := by
  cases hp with
  | bool b => rcases hd with ⟨_, hk⟩ | ⟨_, hk⟩ <;> simp [kindP] at hk
  | int k m =>
    obtain ⟨c, hc, e⟩ := ob_some.1 (show ob (piI q) (fun y => bf (keq k y.1) (some (beqI m y.2)) none) = some r from h)
    rw [piI_some hc] at hq; cases hq
    rw [bf_some] at e
    obtain ⟨hk', e⟩ := e
    cases e
    rcases hd with ⟨_, hk⟩ | ⟨⟨i, rfl⟩, hk⟩
    · simp [kindP] at hk
    · simp [Instr.sameNow, keq_eq hk', beqI_eq]
  | str s b hs =>
    obtain ⟨c, hc, e⟩ := ob_some.1 (show ob (piS q) (fun y => some (eqS s y)) = some r from h)
    rw [piS_some hc] at hq
    cases hq with | str _ c' hc' =>
    cases e
    subst hs; subst hc'
    rcases hd with ⟨rfl, hk⟩ | ⟨_, hk⟩
    · simp [Instr.sameNow, eqS_bytes, eqBS_toList]
    · simp [kindP] at hk
  | fz0 => simp [eq1] at h
  | fz => simp [eq1] at h
  | agg => simp [eq1] at h
theorem getK_cons {α : Type} {k p : PV} {v : α} {l : List (PV × α)} {r : Option α} (h : getK k ((p, v) :: l) = some r) : ∃ b, eqKy k p = some b ∧ ((b = true ∧ r = some v) ∨ (b = false ∧ getK k l = some r)) := by
  have e : getK k ((p, v) :: l) = ob (eqKy k p) fun r => bf r (some (some v)) (getK k l) := rfl
  rw [e] at h
  obtain ⟨b, hb, h⟩ := ob_some.1 h
  cases b
  · exact ⟨false, hb, .inr ⟨rfl, h⟩⟩
  · simp at h; exact ⟨true, hb, .inl ⟨rfl, h.symm⟩⟩
/-- A key is found, or none is: by a look, or by asking entry by entry. -/
def FindAt (P : Program) (kt : TypeId) (w : World) (x : Value) (es : List MapEntry) (i : Nat) (r : Option (Nat × Value)) : Prop :=
  (∃ d, P.underlying kt = some d ∧ Instr.findNow d x es i = some r) ∨ ((∃ d, P.underlying kt = some d ∧ ∀ y, Instr.sameNow d x y = none) ∧ (Instr.findAsking kt x es i).run P w = .ok r w)
theorem FindAt.run {kt : TypeId} {x : Value} {es : List MapEntry} {r : Option (Nat × Value)} (h : FindAt P kt w x es 0 r) : (Instr.findKey kt x es).run P w = .ok r w := by
  rcases h with ⟨d, hd, hf⟩ | ⟨⟨d, hd, hn⟩, hf⟩
  · exact MapKept.run_findKey hd hf
  · cases es with
    | nil =>
      simp [Instr.findAsking] at hf
      subst hf
      exact MapKept.run_findKey hd rfl
    | cons e es =>
      have : Instr.findNow d x (e :: es) 0 = none := by simp [Instr.findNow, hn]
      simp [Instr.findKey, run_und w hd, this, hf]
theorem kindK_agg {k : PV} {n : Nat} (h : kindK k = 4 + n) : ∃ cs, k = .agg cs ∧ cs.length = n ∧ ∀ c ∈ cs, kindP c = 1 := by
  cases k with
  | agg cs =>
    have h : bf (allL (fun c => Nat.beq (kindP c) 1) cs) (4 + len cs) 3 = 4 + n := h
    rw [allL_eq, len_eq] at h
    cases ha : cs.all fun c => Nat.beq (kindP c) 1 with
    | true =>
      rw [ha] at h
      have h : 4 + cs.length = 4 + n := h
      rw [List.all_eq_true] at ha
      exact ⟨cs, rfl, by omega, fun c hc => Nat.eq_of_beq_eq_true (ha c hc)⟩
    | false =>
      rw [ha] at h
      have h : 3 = 4 + n := h
      omega
  | bool b => simp [kindK] at h; omega
  | int k m => simp [kindK] at h; omega
  | str s => simp [kindK] at h; omega
  | fz es => simp [kindK] at h; omega
theorem kindK_low {k : PV} (h : kindK k = 1 ∨ kindK k = 2) : kindK k = kindP k ∧ ∀ p, eqKy k p = eq1 k p := by
  cases k with
  | agg cs =>
    have e : kindK (.agg cs) = bf (allL (fun c => Nat.beq (kindP c) 1) cs) (4 + len cs) 3 := rfl
    rw [e] at h
    cases ha : allL (fun c => Nat.beq (kindP c) 1) cs with
    | true => rw [ha] at h; have h : 4 + len cs = 1 ∨ 4 + len cs = 2 := h; omega
    | false => rw [ha] at h; have h : 3 = 1 ∨ 3 = 2 := h; omega
  | _ => exact ⟨rfl, fun _ => rfl⟩
theorem kinds_map {cs : List PV} {ks : List Nat} (h1 : ∀ c ∈ cs, kindP c = 1) (h2 : ∀ k ∈ ks, k = 1) (hl : cs.length = ks.length) : mapL kindP cs = ks := by
  rw [mapL_eq]
  induction cs generalizing ks with
  | nil => cases ks with
    | nil => rfl
    | cons _ _ => simp at hl
  | cons c cs ih =>
    cases ks with
    | nil => simp at hl
    | cons k ks =>
      rw [List.map_cons, h1 c (by simp), h2 k (by simp), ih (ks := ks) (fun c hc => h1 c (by simp [hc])) (fun k hk => h2 k (by simp [hk])) (by simpa using hl)]
theorem key_equal {O : Bl} {kt : TypeId} {k p : PV} {x y : Value} {fs : Array Field} {ks : List Nat} {b : Bool} (hu : P.underlying kt = some (.struct fs)) (hs : P.stoodInHeld kt = false) (hks : kindsF P 0 fs.toList = some ks) (h1 : ∀ k ∈ ks, k = 1) (hkk : kindK k = 4 + ks.length)
    (hk : PRel w O k x) (hp : PRel w O p y) (h : eqKy k p = some b) : (Op.equal kt x y).run P w = .ok b w := by
  obtain ⟨cs, rfl, hl, hc⟩ := kindK_agg hkk
  obtain ⟨ds, hds, h⟩ := ob_some.1 (show (ob (piA p) fun ds => eqK (mapL kindP cs) cs ds) = some b from h)
  have hpa : p = .agg ds := by cases p <;> simp [piA] at hds; rw [hds]
  subst hpa
  have h : eqK (mapL kindP cs) cs ds = some b := h
  rw [kinds_map hc h1 hl] at h
  cases hk with | agg _ xs hl1 hv1 k1 =>
  cases hp with | agg _ ys hl2 hv2 k2 =>
  have hf : P.fieldsOf kt = fs := by simp [Program.fieldsOf, hu]
  show (Op.equalIn 10000 kt (.agg ⟨xs⟩) (.agg ⟨ys⟩)).run P w = .ok b w
  rw [run_equalIn_struct w 9999 kt _ _ (by rw [hf]; exact hu) hs, hf]
  have := eqFields_run (P := P) (w := w) (O := O) fs.toList 0 ks cs ds xs ys [] [] b 9998 hks h rfl rfl hl1 hl2 k1 k2
  simpa using this
theorem FindAt.nil {kt : TypeId} {kk : Nat} (hT : KeyT P kt kk) (x : Value) (i : Nat) : FindAt P kt w x [] i none := by
  rcases hT with ⟨d, hd, _⟩ | ⟨fs, ks, hu, _⟩
  · exact .inl ⟨d, hd, rfl⟩
  · exact .inl ⟨_, hu, rfl⟩
theorem FindAt.hit {O : Bl} {kt : TypeId} {k p : PV} {x : Value} {e : MapEntry} {es : List MapEntry} {i : Nat} (hT : KeyT P kt (kindK k)) (hk : PRel w O k x) (hp : PRel w O p e.key) (h : eqKy k p = some true) : FindAt P kt w x (e :: es) i (some (i, e.val)) := by
  rcases hT with ⟨d, hd, hD⟩ | ⟨fs, ks, hu, hs, hks, h1, hkk⟩
  · have hl := kindK_low (k := k) (by rcases hD with ⟨_, h⟩ | ⟨_, h⟩ <;> simp [h])
    rw [hl.1] at hD
    rw [hl.2] at h
    exact .inl ⟨d, hd, by simp [Instr.findNow, sameNow_ok hD hk hp h]⟩
  · have hE := key_equal hu hs hks h1 hkk hk hp h
    exact .inr ⟨⟨_, hu, fun y => rfl⟩, by simp [Instr.findAsking, hE]⟩
theorem FindAt.miss {O : Bl} {kt : TypeId} {k p : PV} {x : Value} {e : MapEntry} {es : List MapEntry} {i : Nat} {r : Option (Nat × Value)} (hT : KeyT P kt (kindK k)) (hk : PRel w O k x) (hp : PRel w O p e.key) (h : eqKy k p = some false) (hr : FindAt P kt w x es (i + 1) r) : FindAt P kt w x (e :: es) i r := by
  rcases hT with ⟨d, hd, hD⟩ | ⟨fs, ks, hu, hs, hks, h1, hkk⟩
  · have hl := kindK_low (k := k) (by rcases hD with ⟨_, h⟩ | ⟨_, h⟩ <;> simp [h])
    rw [hl.1] at hD
    rw [hl.2] at h
    have hsn := sameNow_ok hD hk hp h
    rcases hr with ⟨d', hd', hr⟩ | ⟨⟨d', hd', hr⟩, _⟩
    · rw [hd] at hd'; cases hd'
      exact .inl ⟨d, hd, by simp [Instr.findNow, hsn, hr]⟩
    · rw [hd] at hd'; cases hd'
      rw [hr] at hsn; cases hsn
  · have hE := key_equal hu hs hks h1 hkk hk hp h
    have hr' : (Instr.findAsking kt x es (i + 1)).run P w = .ok r w := by
      rcases hr with ⟨d', hd', hr⟩ | ⟨_, hr⟩
      · rw [hu] at hd'; cases hd'
        cases es with
        | nil => cases hr; simp [Instr.findAsking]
        | cons e' es =>
          have : Instr.sameNow (.struct fs) x e'.key = none := rfl
          simp [Instr.findNow, this] at hr
      · exact hr
    exact .inr ⟨⟨_, hu, fun y => rfl⟩, by simp [Instr.findAsking, hE, hr']⟩
/-- What the map's search finds. -/
theorem findNow_ok {O : Bl} {kt : TypeId} {k : PV} {x : Value} (hd : KeyT P kt (kindK k)) (hk : PRel w O k x) : ∀ (l : List (PV × AV)) (es : List MapEntry) (i : Nat) (r : Option AV), l.length = es.length →
    (∀ (j : Nat) (p : PV) (v : AV) (e : MapEntry), l[j]? = some (p, v) → es[j]? = some e → PRel w O p e.key ∧ AVRel w O G v e.val) → getK k l = some r →
    match r with
    | none => FindAt P kt w x es i none
    | some v => ∃ j e, FindAt P kt w x es i (some (i + j, e.val)) ∧ es[j]? = some e ∧ AVRel w O G v e.val ∧ ∃ p, l[j]? = some (p, v)
  | [], es, i, r, hl, h, hg => by
    cases es with
    | nil => cases hg; exact .nil hd x i
    | cons e es => simp at hl
  | (p, v) :: l, es, i, r, hl, h, hg => by
    cases es with
    | nil => simp at hl
    | cons e es =>
      obtain ⟨b, hb, hr⟩ := getK_cons hg
      have h0 := h 0 p v e (by simp) (by simp)
      rcases hr with ⟨rfl, rfl⟩ | ⟨rfl, hg'⟩
      · exact ⟨0, e, .hit hd hk h0.1 hb, by simp, h0.2, p, by simp⟩
      · have ih := findNow_ok hd hk l es (i + 1) r (by simpa using hl) (fun j p v e h1 h2 => h (j + 1) p v e (by simpa using h1) (by simpa using h2)) hg'
        cases r with
        | none => exact .miss hd hk h0.1 hb ih
        | some u =>
          obtain ⟨j, e', h1, h2, h3, q, h4⟩ := ih
          rw [show i + 1 + j = i + (j + 1) by omega] at h1
          exact ⟨j + 1, e', .miss hd hk h0.1 hb h1, by simpa using h2, h3, q, by simpa using h4⟩
theorem forIn_yield {α : Type} (g : α → PUnit → Sem (ForInStep PUnit)) : ∀ (l : List α), (∀ a ∈ l, (g a PUnit.unit).run P w = .ok (.yield PUnit.unit) w) → (forIn l PUnit.unit g : Sem PUnit).run P w = .ok PUnit.unit w
  | [], _ => by simp
  | a :: l, h => by
    rw [List.forIn_cons]
    simp only [Sem.run_bind, h a (by simp), Result.andThen_ok]
    exact forIn_yield g l fun a ha => h a (by simp [ha])
theorem kindsF_mem : ∀ (fs : List Field) (i : Nat) (ks : List Nat), kindsF P i fs = some ks → ∀ f ∈ fs, ∃ j, f.offset = i + j ∧ j < ks.length ∧ ∃ k, ks[j]? = some k ∧ KindT P f.type k
  | [], i, ks, h, f, hf => by cases hf
  | g :: fs, i, ks, h, f, hf => by
    obtain ⟨k, ks', rfl, hk', hoff, hname, hkt⟩ := kindsF_cons h
    rcases List.mem_cons.1 hf with rfl | hf
    · exact ⟨0, by simpa using hoff, by simp, k, by simp, hkt⟩
    · obtain ⟨j, h1, h2, k', h3, h4⟩ := kindsF_mem fs (i + 1) ks' hk' f hf
      exact ⟨j + 1, by omega, by simpa using h2, k', by simpa using h3, h4⟩
theorem checkKey_ok {kt : TypeId} {k : PV} {O : Bl} {x : Value} (hT : KeyT P kt (kindK k)) (hk : PRel w O k x) (e : Bool) (n : Nat) : (Instr.checkKey e (n + 2) kt x).run P w = .ok () w := by
  rcases hT with ⟨d, hd, hD⟩ | ⟨fs, ks, hu, hs, hks, h1, hkk⟩
  · unfold Instr.checkKey
    simp only [Sem.run_bind, run_und w hd, Result.andThen_ok]
    rcases hD with ⟨rfl, _⟩ | ⟨⟨k, rfl⟩, _⟩ <;> cases x <;> simp
  · obtain ⟨cs, rfl, hl, hc⟩ := kindK_agg hkk
    cases hk with | agg _ xs hl1 hv1 k1 =>
    unfold Instr.checkKey
    simp only [Sem.run_bind, run_und w hu, Result.andThen_ok]
    rw [← Array.forIn_toList, forIn_yield (P := P) (w := w) _ fs.toList (fun f hf => ?_)]
    · simp
    · obtain ⟨j, hj, hjl, k', hk', hkt⟩ := kindsF_mem fs.toList 0 ks hks f hf
      have hk1 := h1 k' (List.mem_of_getElem? hk')
      subst hk1
      have hjx : j < xs.length := by omega
      have hp : (part f.type ⟨xs⟩ f.offset).run P w = .ok xs[j] w := part_scalar hkt (by simp [hj, hjx])
      split
      · have hck : (Instr.checkKey e (n + 1) f.type xs[j]).run P w = .ok () w := by
          rcases hkt with ⟨_, h⟩ | ⟨⟨i, h⟩, _⟩ | ⟨_, h⟩ <;> first | (cases h; done) | skip
          unfold Instr.checkKey
          simp only [Sem.run_bind, run_und w h, Result.andThen_ok]
          cases xs[j] <;> simp
        simp only [Sem.run_bind, hp, Result.andThen_ok, hck, Sem.run_pure]
      · simp
theorem zero_run {t : TypeId} {i : TypeInfo} {z : Value} (hi : P.info? t = some i) (hz : i.zero = some z) : (zeroValue t).run P w = .ok z w := by simp [zeroValue, typeInfo, hi, hz]
theorem getK_pure {k : PV} : ∀ (l : List (PV × PV)), getK k (l.map fun p => (p.1, AV.p p.2)) = ob (getK k l) fun r => some (r.map AV.p)
  | [] => rfl
  | (p, v) :: l => by
    have e1 : getK k ((p, v) :: l) = ob (eqKy k p) fun r => bf r (some (some v)) (getK k l) := rfl
    have e2 : getK k (((p, v) :: l).map fun p => (p.1, AV.p p.2)) = ob (eqKy k p) fun r => bf r (some (some (AV.p v))) (getK k (l.map fun p => (p.1, AV.p p.2))) := rfl
    rw [e1, e2, getK_pure l]
    cases eqKy k p with
    | none => rfl
    | some b => cases b <;> rfl
theorem zeroV_ok {e : TypeId} {z : AV} (h : zeroV P e = some z) (w : World) (O : Bl) (G : Gm) (n : Nat → Prop) : ∃ i x, P.info? e = some i ∧ i.zero = some x ∧ R w O G n z x := by
  unfold zeroV at h
  split at h <;> try (cases h; done)
  rename_i i hi
  split at h <;> try (cases h; done)
  rename_i x hx
  exact ⟨i, x, hi, hx, (ofValue_ok w O G 10 x z h).mono0⟩
theorem lookRes_ok {O : Bl} {n : Nat → Prop} {ok : Bool} {u : AV} {x : Value} (b : Bool) (h : R w O G n u x) : R w O G n (lookRes ok u b) (if ok then .tuple #[x, .bool b] else x) := by
  cases ok with
  | false => exact h
  | true =>
    refine ⟨.tup [u, .p (.bool b)] [x, .bool b] rfl ?_, ?_⟩
    · intro i c y hc hy
      match i with
      | 0 => simp at hc hy; subst hc; subst hy; exact h.1
      | 1 => simp at hc hy; subst hc; subst hy; exact .p _ _ (.bool b)
      | i + 2 => simp at hc
    · intro r hr
      simp [lookRes] at hr
      exact h.2 r hr
theorem ok_lookup (hS : St objs B G w) (hc : Cx ρ fr env a w (Own objs G) G B) {t kt e : TypeId} {m k : Operand} {o o' : Opd} {kk : Nat} {z v : AV} {ok : Bool}
    (hu : P.underlying t = some (.map kt e)) (hk : keyK P t = some kk) (hz : zeroV P e = some z) (hm : opdC ρ m = some o) (hkk : opdC ρ k = some o') (he : evP (.lookup kk z ok o o') fr env objs = some v) :
    ∃ y, (Instr.lookup t (a.eval m) (a.eval k) ok).run P w = .ok y w ∧ R w (Own objs G) G B v y := by
  obtain ⟨kt', e', hu', hKD⟩ := keyK_some hk
  rw [hu] at hu'; cases hu'
  obtain ⟨inf, zv, hinf, hzv, hzr⟩ := zeroV_ok hz w (Own objs G) G B
  have hzero := zero_run (w := w) hinf hzv
  simp only [evP, ob_some, bf_some] at he
  obtain ⟨um, hum, uk, huk, pk, hpk, hkind, he⟩ := he
  have hkind := Nat.eq_of_beq_eq_true hkind
  have hrm := hc.opd hm hum
  have hrk := hc.opd hkk huk
  rw [asP_some hpk] at hrk
  cases hrk.1 with | p _ _ hpk' =>
  rw [← hkind] at hKD
  have hck : ∀ e, (Instr.checkKey e 10000 kt (a.eval k)).run P w = .ok () w := fun e => checkKey_ok hKD hpk' e 9998
  generalize a.eval m = xm at hrm ⊢
  rcases mapCases_some he with ⟨id, rfl, he⟩ | ⟨rfl, he⟩
  · obtain ⟨hrm, hbm⟩ := hrm
    cases hrm
    obtain ⟨ob', hob, he⟩ := ob_some.1 he
    have fin : ∀ (l : List (PV × AV)) (r : Option AV), MapAt w (Own objs G) G (G id).b l → (∀ (i : Nat) (p : PV) (u : AV), l[i]? = some (p, u) → Below B u) → getK pk l = some r → v = look z ok r →
        ∃ y, (Instr.lookup t (.map (some (G id).b)) (a.eval k) ok).run P w = .ok y w ∧ R w (Own objs G) G B v y := by
      intro l r ⟨es, clock, hb, hsz, hes⟩ hbel hg hv
      have hfn := findNow_ok (w := w) (G := G) hKD hpk' l es.toList 0 r (by simpa using hsz.1.symm) (fun j p v e h1 h2 => hes j p v e h1 (by simpa using h2)) hg
      cases r with
      | none =>
        refine ⟨_, ?_, by rw [hv]; exact lookRes_ok false hzr⟩
        simp [Instr.lookup, run_und w hu, MapKept.run_getObj_map hb, hck, FindAt.run hfn, hzero]
      | some u =>
        obtain ⟨j, en, h1, h2, h3, p, h4⟩ := hfn
        refine ⟨_, ?_, by rw [hv]; exact lookRes_ok true ⟨h3, hbel j p u h4⟩⟩
        simp [Instr.lookup, run_und w hu, MapKept.run_getObj_map hb, hck, FindAt.run h1]
    rcases asMap_ok hS hob he with ⟨l, rfl, he, hM⟩ | ⟨l, rfl, he, hM⟩
    · obtain ⟨r, hr, he⟩ := ob_some.1 he
      cases he
      refine fin _ (r.map AV.p) hM (fun i p u h => ?_) (by rw [getK_pure, hr, ob_of]) (by cases r <;> rfl)
      simp only [List.getElem?_map, Option.map_eq_some_iff] at h
      obtain ⟨q, _, h⟩ := h
      cases h
      intro r hr; simp at hr
    · obtain ⟨r, hr, he⟩ := ob_some.1 he
      cases he
      exact fin l r hM (fun i p u h r hr => hS.refs id _ ⟨hob, by simp⟩ r (refsM_get h hr)) hr rfl
  · cases he
    cases hrm.1
    refine ⟨_, ?_, lookRes_ok false hzr⟩
    have : (Instr.findKey kt (a.eval k) []).run P w = .ok none w := FindAt.run (.nil hKD _ 0)
    simp [Instr.lookup, run_und w hu, hck, this, hzero]
theorem ok_len0 (hc : Cx ρ fr env a w (Own objs G) G B) {ts : Array TypeId} {t ty : TypeId} {x : Operand} {o : Opd} {v : AV} (ht : ts[0]? = some t) (hu : P.underlying t = some .string) (hx : opdC ρ x = some o) (he : evP (.len 0 o) fr env objs = some v) :
    ∃ y, (Builtin.len_ ts ty #[a.eval x]).run P w = .ok y w ∧ R w (Own objs G) G B v y := by
  simp only [evP, ob_some] at he
  obtain ⟨u, hu', n, hn, he⟩ := he
  cases he
  obtain ⟨s, hs, hn⟩ := ob_some.1 (show ob (asS u) (fun s => some (len s)) = some n from hn)
  cases hn
  have hr := hc.opd hx hu'
  rw [asS_some hs] at hr
  obtain ⟨b, hb, rfl⟩ := hr.str
  rw [hb]
  refine ⟨_, ?_, R.pi .i64 _⟩
  simp [Builtin.len_, ht, run_und w hu, goInt]
theorem ok_len1 (hc : Cx ρ fr env a w (Own objs G) G B) {ts : Array TypeId} {t ty e : TypeId} {x : Operand} {o : Opd} {v : AV} (ht : ts[0]? = some t) (hu : P.underlying t = some (.slice e)) (hx : opdC ρ x = some o) (he : evP (.len 1 o) fr env objs = some v) :
    ∃ y, (Builtin.len_ ts ty #[a.eval x]).run P w = .ok y w ∧ R w (Own objs G) G B v y := by
  simp only [evP, ob_some] at he
  obtain ⟨u, hu', n, hn, he⟩ := he
  cases he
  obtain ⟨ad, cap, hx', _⟩ := lenS_ok (hc.opd hx hu') hn
  rw [hx']
  refine ⟨_, ?_, R.pi .i64 _⟩
  simp [Builtin.len_, ht, run_und w hu, goInt]
theorem ok_len2 (hS : St objs B G w) (hc : Cx ρ fr env a w (Own objs G) G B) {ts : Array TypeId} {t ty kt e : TypeId} {x : Operand} {o : Opd} {v : AV} (ht : ts[0]? = some t) (hu : P.underlying t = some (.map kt e)) (hx : opdC ρ x = some o) (he : evP (.len 2 o) fr env objs = some v) :
    ∃ y, (Builtin.len_ ts ty #[a.eval x]).run P w = .ok y w ∧ R w (Own objs G) G B v y := by
  simp only [evP, ob_some] at he
  obtain ⟨u, hu', n, hn, he⟩ := he
  cases he
  have hn : mapCases u (fun id => ob (getO id objs) fun o => asMap o (fun l => some (len l)) (fun l => some (len l))) (some 0) = some n := hn
  have hr := (hc.opd hx hu').1
  generalize a.eval x = xx at hr ⊢
  rcases mapCases_some hn with ⟨id, rfl, hn⟩ | ⟨rfl, hn⟩
  · cases hr
    obtain ⟨o', ho', hn⟩ := ob_some.1 hn
    have fin : ∀ l : List (PV × AV), MapAt w (Own objs G) G (G id).b l → n = l.length → ∃ y, (Builtin.len_ ts ty #[.map (some (G id).b)]).run P w = .ok y w ∧ R w (Own objs G) G B (.p (.int .i64 (Int.ofNat n))) y := by
      intro l ⟨es, clock, hb, hsz, _⟩ hn
      refine ⟨_, ?_, R.pi .i64 _⟩
      simp [Builtin.len_, ht, run_und w hu, MapKept.run_getObj_map hb, goInt, hsz.1, hn]
    rcases asMap_ok hS ho' hn with ⟨l, rfl, h, hM⟩ | ⟨l, rfl, h, hM⟩
    · cases h; exact fin _ hM (by simp)
    · cases h; exact fin _ hM (by simp)
  · cases hn
    cases hr
    refine ⟨_, ?_, R.pi .i64 _⟩
    simp [Builtin.len_, ht, run_und w hu, goInt]
theorem ok_max (hc : Cx ρ fr env a w (Own objs G) G B) {ts : Array TypeId} {ty : TypeId} {x y : Operand} {o o' : Opd} {v : AV} (hx : opdC ρ x = some o) (hy : opdC ρ y = some o') (he : evP (.max o o') fr env objs = some v) :
    ∃ z, (Builtin.max_ ts ty #[a.eval x, a.eval y]).run P w = .ok z w ∧ R w (Own objs G) G B v z := by
  simp only [evP, ob_some] at he
  obtain ⟨u, hu, u', hu', p, hp, q, hq, he⟩ := he
  cases he
  have h1 := hc.opd hx hu
  have h2 := hc.opd hy hu'
  rw [asI_some hp] at h1
  rw [asI_some hq] at h2
  rw [h1.int, h2.int]
  refine ⟨.int p.1 (if p.2 < q.2 then q.2 else p.2), by simp [Builtin.max_, Builtin.max2], ?_⟩
  rw [leI_eq]
  by_cases h : q.2 ≤ p.2
  · have : ¬ p.2 < q.2 := by omega
    simpa [h, this] using R.pi p.1 p.2
  · have : p.2 < q.2 := by omega
    simpa [h, this] using R.pi p.1 q.2
theorem ok_min (hc : Cx ρ fr env a w (Own objs G) G B) {ts : Array TypeId} {ty : TypeId} {x y : Operand} {o o' : Opd} {v : AV} (hx : opdC ρ x = some o) (hy : opdC ρ y = some o') (he : evP (.min o o') fr env objs = some v) :
    ∃ z, (Builtin.min_ ts ty #[a.eval x, a.eval y]).run P w = .ok z w ∧ R w (Own objs G) G B v z := by
  simp only [evP, ob_some] at he
  obtain ⟨u, hu, u', hu', p, hp, q, hq, he⟩ := he
  cases he
  have h1 := hc.opd hx hu
  have h2 := hc.opd hy hu'
  rw [asI_some hp] at h1
  rw [asI_some hq] at h2
  rw [h1.int, h2.int]
  refine ⟨.int p.1 (if q.2 < p.2 then q.2 else p.2), by simp [Builtin.min_, Builtin.min2], ?_⟩
  rw [leI_eq]
  by_cases h : p.2 ≤ q.2
  · have : ¬ q.2 < p.2 := by omega
    simpa [h, this] using R.pi p.1 p.2
  · have : q.2 < p.2 := by omega
    simpa [h, this] using R.pi p.1 q.2
end
end Go.Ab
