/- Plain mathematics of images: no program in sight. -/
import Derived.WalkKit
import Derived.Lib.Hide
import Derived.Deep.QuietTactic
namespace Go.Proofs.Ytgdiaaoekkdibaa
set_option linter.unusedVariables false
open Go.RowKit
structure ObjI where
  bank : Int
  addr : Int
  size : Int
structure RelI where
  bank : Int
  off : Int
structure Img where
  banks : List ByteArray
  entry : Int
  vector : Int
  data : List ObjI
  relocs : List RelI
def OkI64 (n : Int) : Prop := -9223372036854775808 ≤ n ∧ n ≤ 9223372036854775807
def OkU16 (n : Int) : Prop := 0 ≤ n ∧ n < 65536
def ObjI.ok (o : ObjI) : Prop := OkI64 o.bank ∧ OkU16 o.addr ∧ OkU16 o.size
def RelI.ok (r : RelI) : Prop := OkI64 r.bank ∧ OkU16 r.off
def ObjI.cells (o : ObjI) : List Value := [.int .i64 o.bank, .int .u16 o.addr, .int .u16 o.size]
def RelI.cells (r : RelI) : List Value := [.int .i64 r.bank, .int .u16 r.off]
def ObjI.val (o : ObjI) : Value := .agg #[.int .i64 o.bank, .int .u16 o.addr, .int .u16 o.size]
def RelI.val (r : RelI) : Value := .agg #[.int .i64 r.bank, .int .u16 r.off]

/-- A slice value's elements in memory: objects, relocations, strings. -/
def ObjsAt (w : World) (a : Option Addr) (l : List ObjI) : Prop :=
  ∀ k o, l[k]? = some o → ∃ B, a = some ⟨B, 0, none⟩ ∧ B < w.heap.size ∧ w.cell? ⟨B, k * 3, none⟩ = some (.int .i64 o.bank) ∧ w.cell? ⟨B, k * 3 + 1, none⟩ = some (.int .u16 o.addr) ∧ w.cell? ⟨B, k * 3 + 2, none⟩ = some (.int .u16 o.size) ∧ o.ok
def RelsAt (w : World) (a : Option Addr) (l : List RelI) : Prop :=
  ∀ k o, l[k]? = some o → ∃ B, a = some ⟨B, 0, none⟩ ∧ B < w.heap.size ∧ w.cell? ⟨B, k * 2, none⟩ = some (.int .i64 o.bank) ∧ w.cell? ⟨B, k * 2 + 1, none⟩ = some (.int .u16 o.off) ∧ o.ok
def StrsAt (w : World) (a : Option Addr) (l : List ByteArray) : Prop :=
  ∀ k s, l[k]? = some s → ∃ B, a = some ⟨B, 0, none⟩ ∧ B < w.heap.size ∧ w.cell? ⟨B, k, none⟩ = some (.string s) ∧ s.size ≤ maxLen
def IntsAt (w : World) (a : Option Addr) (l : List Int) : Prop :=
  ∀ k n, l[k]? = some n → ∃ B off, a = some ⟨B, off, none⟩ ∧ B < w.heap.size ∧ w.cell? ⟨B, off + k, none⟩ = some (.int .i64 n) ∧ OkI64 n
theorem ObjsAt.kept {w w' : World} {a : Option Addr} {l : List ObjI} (h : ObjsAt w a l) (hb : Below w.heap.size w w') : ObjsAt w' a l := by
  intro k o hk
  obtain ⟨B, e, hB, c0, c1, c2, ok⟩ := h k o hk
  exact ⟨B, e, Nat.lt_of_lt_of_le hB hb.size, (hb.cell hB).trans c0, (hb.cell hB).trans c1, (hb.cell hB).trans c2, ok⟩
theorem RelsAt.kept {w w' : World} {a : Option Addr} {l : List RelI} (h : RelsAt w a l) (hb : Below w.heap.size w w') : RelsAt w' a l := by
  intro k o hk
  obtain ⟨B, e, hB, c0, c1, ok⟩ := h k o hk
  exact ⟨B, e, Nat.lt_of_lt_of_le hB hb.size, (hb.cell hB).trans c0, (hb.cell hB).trans c1, ok⟩
theorem StrsAt.kept {w w' : World} {a : Option Addr} {l : List ByteArray} (h : StrsAt w a l) (hb : Below w.heap.size w w') : StrsAt w' a l := by
  intro k o hk
  obtain ⟨B, e, hB, c0, ok⟩ := h k o hk
  exact ⟨B, e, Nat.lt_of_lt_of_le hB hb.size, (hb.cell hB).trans c0, ok⟩
theorem IntsAt.kept {w w' : World} {a : Option Addr} {l : List Int} (h : IntsAt w a l) (hb : Below w.heap.size w w') : IntsAt w' a l := by
  intro k o hk
  obtain ⟨B, off, e, hB, c0, ok⟩ := h k o hk
  exact ⟨B, off, e, Nat.lt_of_lt_of_le hB hb.size, (hb.cell hB).trans c0, ok⟩

theorem ret_int {k : IntKind} {a b : Int} (h : a = b) : Ending.returned (.int k a) = .returned (.int k b) := by rw [h]
theorem ret_bool {a b : Bool} (h : a = b) : Ending.returned (.bool a) = .returned (.bool b) := by rw [h]
theorem wrap_in (n : Int) (h0 : 0 ≤ n) (h1 : n < 65536) : IntKind.u16.wrap n = n := by rw [IntKind.wrap_u16]; omega
theorem dec_true {P : Prop} [Decidable P] (h : P) : true = decide P := (decide_eq_true h).symm
theorem dec_false {P : Prop} [Decidable P] (h : ¬ P) : false = decide P := (decide_eq_false h).symm
theorem below_drewN {B : Nat} {a w : World} (h : Below B a w) (n : Nat) : Below B a (w.drewN n) := ⟨h.os, h.tape, h.output, h.size, h.block⟩
theorem below1 (w : World) (a : Obj) : Below w.heap.size w (w.alloc a) := (Below.refl _ _).alloc (Nat.le_refl _) _
theorem below_next {w w1 w2 : World} (h : Below w.heap.size w w1) (k : Below w1.heap.size w1 w2) : Below w.heap.size w w2 := h.trans (k.mono h.size)
theorem below_alloc {w w1 : World} (h : Below w.heap.size w w1) (o : Obj) : Below w.heap.size w (w1.alloc o) := h.alloc h.size o

/-- The object that contains a byte. -/
def ObjI.has (o : ObjI) (bank a : Int) : Bool := decide (o.bank = bank ∧ o.addr ≤ a ∧ a < o.addr + o.size)
def objFind (bank a : Int) : List ObjI → Nat → Int × Int × Bool
  | [], _ => (0, 0, false)
  | o :: l, n => if o.has bank a then (n, a - o.addr, true) else objFind bank a l (n + 1)
theorem drop_at {α : Type} (l : List α) (k : Nat) (o : α) (h : l[k]? = some o) : l.drop k = o :: l.drop (k + 1) := by
  obtain ⟨hk, e⟩ := List.getElem?_eq_some_iff.1 h
  rw [List.drop_eq_getElem_cons hk, e]
theorem at_some {α : Type} (l : List α) (k : Nat) (h : k < l.length) : ∃ o, l[k]? = some o := ⟨l[k], List.getElem?_eq_getElem h⟩
theorem objFind_hit (bank a : Int) (l : List ObjI) (k : Nat) (o : ObjI) (h : l[k]? = some o) (hh : o.has bank a = true) : objFind bank a (l.drop k) k = ((k : Int), a - o.addr, true) := by
  rw [drop_at l k o h]; simp [objFind, hh]
theorem objFind_miss (bank a : Int) (l : List ObjI) (k : Nat) (o : ObjI) (h : l[k]? = some o) (hh : o.has bank a = false) : objFind bank a (l.drop k) k = objFind bank a (l.drop (k + 1)) (k + 1) := by
  rw [drop_at l k o h]; simp [objFind, hh]
theorem objFind_end (bank a : Int) (l : List ObjI) : objFind bank a (l.drop l.length) l.length = (0, 0, false) := by simp [objFind]
def trio (t : Int × Int × Bool) : Value := .tuple #[.int .i64 t.1, .int .u16 t.2.1, .bool t.2.2]

/-- What is wrong with an object by itself, and behind another one. -/
def ObjI.bad0 (o : ObjI) (banks : Int) : Prop :=
  o.size = 0 ∨ o.bank < -1 ∨ banks ≤ o.bank ∨ (o.bank < 0 ∧ (o.addr < 16384 ∨ 24576 < o.addr + o.size)) ∨ (0 ≤ o.bank ∧ 4096 < o.addr + o.size)
def ObjI.after (p o : ObjI) : Prop := o.bank < p.bank ∨ (p.bank = o.bank ∧ o.addr < p.addr + p.size)
instance (o : ObjI) (b : Int) : Decidable (o.bad0 b) := by unfold ObjI.bad0; infer_instance
instance (p o : ObjI) : Decidable (p.after o) := by unfold ObjI.after; infer_instance
def objWrong (banks : Int) (p : Option ObjI) (o : ObjI) : Bool :=
  match p with
  | none => decide (o.bad0 banks)
  | some p => decide (o.bad0 banks ∨ p.after o)
def prevAt {α : Type} (l : List α) (k : Nat) : Option α := if k = 0 then none else l[k - 1]?
/-- The first wrong object, or -1. -/
def firstObj (banks : Int) : Option ObjI → List ObjI → Nat → Int
  | _, [], _ => -1
  | p, o :: l, n => if objWrong banks p o then n else firstObj banks (some o) l (n + 1)
theorem prev_next {α : Type} (l : List α) (k : Nat) : prevAt l (k + 1) = l[k]? := by unfold prevAt; rw [if_neg (by omega)]; rfl
theorem firstObj_hit (banks : Int) (l : List ObjI) (k : Nat) (o : ObjI) (p : Option ObjI) (h : l[k]? = some o) (hh : objWrong banks p o = true) : firstObj banks p (l.drop k) k = k := by
  rw [drop_at l k o h]; simp [firstObj, hh]
theorem firstObj_miss (banks : Int) (l : List ObjI) (k : Nat) (o : ObjI) (p : Option ObjI) (h : l[k]? = some o) (hh : objWrong banks p o = false) : firstObj banks p (l.drop k) k = firstObj banks (prevAt l (k + 1)) (l.drop (k + 1)) (k + 1) := by
  rw [drop_at l k o h, prev_next, h]; simp [firstObj, hh]
theorem firstObj_end (banks : Int) (l : List ObjI) (p : Option ObjI) : firstObj banks p (l.drop l.length) l.length = -1 := by simp [firstObj]
def cmpI (a b : Int) : Int := if a < b then -1 else if b < a then 1 else 0
end Go.Proofs.Ytgdiaaoekkdibaa
namespace Go.Proofs.Ytgdiaaoekkdibaa
set_option linter.unusedVariables false
open Go.RowKit

def halfI (r : Int) : Int := if r = 0 then 1 else if 32768 ≤ r then 2 else 0
def cI (c : Bool) : Int := if c then 1 else 0
def sgI (n : Int) : Int := if 32768 ≤ n then n - 65536 else n
def addR (a b : Int) (c : Bool) : Int := (a + b + cI c) % 65536
def ovI (a b : Int) (c : Bool) : Prop := sgI a + sgI b + cI c < -32768 ∨ 32767 < sgI a + sgI b + cI c
instance (a b : Int) (c : Bool) : Decidable (ovI a b c) := by unfold ovI; infer_instance
def addF (a b : Int) (c : Bool) : Int :=
  halfI (addR a b c) + (if 65536 ≤ a + b + cI c then 4 else 0) + (if ovI a b c then 8 else 0)

theorem halfI_bd (r : Int) : 0 ≤ halfI r ∧ halfI r ≤ 2 := by unfold halfI; split <;> (try split) <;> omega
theorem cI_bd (c : Bool) : 0 ≤ cI c ∧ cI c ≤ 1 := by cases c <;> simp [cI]
theorem addR_bd (a b : Int) (c : Bool) : 0 ≤ addR a b c ∧ addR a b c < 65536 := by unfold addR; omega

theorem high_bit (x : Int) (h0 : 0 ≤ x) (h1 : x < 65536) : bits .and .u16 x 32768 = if 32768 ≤ x then 32768 else 0 := by
  rw [u16_and x 32768 h0 h1 (by omega) (by omega)]
  have := nat_bit 15 x.toNat
  simp only [Nat.reducePow] at this
  rw [show (32768 : Int).toNat = 32768 from rfl, this]
  split <;> omega

theorem testBit15 (x : Nat) (h : x < 65536) : x.testBit 15 = decide (32768 ≤ x) := by
  rw [Nat.testBit_eq_decide_div_mod_eq]
  simp only [Nat.reducePow, decide_eq_decide]
  omega

theorem over_bit (a b r : Int) (a0 : 0 ≤ a) (a1 : a < 65536) (b0 : 0 ≤ b) (b1 : b < 65536) (r0 : 0 ≤ r) (r1 : r < 65536) :
    (bits .and .u16 (bits .and .u16 (bits .xor .u16 a r) (bits .xor .u16 b r)) 32768 != 0) =
      ((decide (32768 ≤ a) != decide (32768 ≤ r)) && (decide (32768 ≤ b) != decide (32768 ≤ r))) := by
  obtain ⟨a, rfl⟩ := Int.eq_ofNat_of_zero_le a0
  obtain ⟨b, rfl⟩ := Int.eq_ofNat_of_zero_le b0
  obtain ⟨r, rfl⟩ := Int.eq_ofNat_of_zero_le r0
  have ha : a < 65536 := by omega
  have hb : b < 65536 := by omega
  have hr : r < 65536 := by omega
  have x1 : a ^^^ r < 65536 := Nat.xor_lt_two_pow (n := 16) ha hr
  have x2 : b ^^^ r < 65536 := Nat.xor_lt_two_pow (n := 16) hb hr
  have x3 : (a ^^^ r) &&& (b ^^^ r) < 65536 := Nat.lt_of_le_of_lt Nat.and_le_left x1
  rw [u16_xor_nat a r ha hr, u16_xor_nat b r hb hr, u16_and_nat _ _ x1 x2, high_bit _ (by omega) (by omega)]
  have key : ((a ^^^ r) &&& (b ^^^ r)).testBit 15 = ((decide (32768 ≤ (a:Int)) != decide (32768 ≤ (r:Int))) && (decide (32768 ≤ (b:Int)) != decide (32768 ≤ (r:Int)))) := by
    rw [Nat.testBit_and, Nat.testBit_xor, Nat.testBit_xor, testBit15 a ha, testBit15 b hb, testBit15 r hr]
    have e : ∀ n : Nat, decide (32768 ≤ (n : Int)) = decide (32768 ≤ n) := fun n => by simp only [decide_eq_decide]; omega
    rw [e, e, e]
  rw [← key, testBit15 _ x3]
  by_cases h : 32768 ≤ (a ^^^ r) &&& (b ^^^ r)
  · rw [if_pos (by omega), decide_eq_true h]; rfl
  · rw [if_neg (by omega), decide_eq_false h]; rfl

theorem over_iff (a b : Int) (c : Bool) (a0 : 0 ≤ a) (a1 : a < 65536) (b0 : 0 ≤ b) (b1 : b < 65536) :
    (bits .and .u16 (bits .and .u16 (bits .xor .u16 a (addR a b c)) (bits .xor .u16 b (addR a b c))) 32768 != 0) = decide (ovI a b c) := by
  have hr := addR_bd a b c
  have hc := cI_bd c
  rw [over_bit a b _ a0 a1 b0 b1 hr.1 hr.2]
  unfold ovI addR sgI at *
  by_cases h1 : 32768 ≤ a <;> by_cases h2 : 32768 ≤ b <;> by_cases h3 : 32768 ≤ (a + b + cI c) % 65536 <;> simp [h1, h2, h3] <;> omega

theorem or_4 (x : Int) (h0 : 0 ≤ x) (h1 : x < 4) : bits .or .u16 x 4 = x + 4 := by
  obtain rfl | rfl | rfl | rfl : x = 0 ∨ x = 1 ∨ x = 2 ∨ x = 3 := by omega
  all_goals decide
theorem or_8 (x : Int) (h0 : 0 ≤ x) (h1 : x < 8) : bits .or .u16 x 8 = x + 8 := by
  obtain rfl | rfl | rfl | rfl | rfl | rfl | rfl | rfl : x = 0 ∨ x = 1 ∨ x = 2 ∨ x = 3 ∨ x = 4 ∨ x = 5 ∨ x = 6 ∨ x = 7 := by omega
  all_goals decide

theorem ret_pair {k l : IntKind} {a b c d : Int} (h : a = b) (h' : c = d) :
    Ending.returned (.tuple #[.int k a, .int l c]) = .returned (.tuple #[.int k b, .int l d]) := by rw [h, h']

/-- Subtraction, in Go's way: the complement is added. -/
def subR (a b : Int) (c : Bool) : Int := addR a (65535 - b) c
def subF (a b : Int) (c : Bool) : Int := addF a (65535 - b) c

theorem and_1 (x : Int) (h0 : 0 ≤ x) (h1 : x < 65536) : bits .and .u16 x 1 = x % 2 := by
  rw [u16_and x 1 h0 h1 (by omega) (by omega), show (1 : Int).toNat = 1 from rfl, nat_mask1]; omega
theorem and_2 (x : Int) (h0 : 0 ≤ x) (h1 : x < 65536) : bits .and .u16 x 2 = x / 2 % 2 * 2 := by
  have := nat_bit 1 x.toNat
  simp only [Nat.reducePow] at this
  rw [u16_and x 2 h0 h1 (by omega) (by omega), show (2 : Int).toNat = 2 from rfl, this]; omega
theorem and_4 (x : Int) (h0 : 0 ≤ x) (h1 : x < 65536) : bits .and .u16 x 4 = x / 4 % 2 * 4 := by
  have := nat_bit 2 x.toNat
  simp only [Nat.reducePow] at this
  rw [u16_and x 4 h0 h1 (by omega) (by omega), show (4 : Int).toNat = 4 from rfl, this]; omega
theorem and_8 (x : Int) (h0 : 0 ≤ x) (h1 : x < 65536) : bits .and .u16 x 8 = x / 8 % 2 * 8 := by
  have := nat_bit 3 x.toNat
  simp only [Nat.reducePow] at this
  rw [u16_and x 8 h0 h1 (by omega) (by omega), show (8 : Int).toNat = 8 from rfl, this]; omega
theorem and_3 (x : Int) (h0 : 0 ≤ x) (h1 : x < 65536) : bits .and .u16 x 3 = x % 4 := by
  rw [u16_and x 3 h0 h1 (by omega) (by omega), show (3 : Int).toNat = 3 from rfl, nat_mask2]; omega
theorem and_12 (x : Int) (h0 : 0 ≤ x) (h1 : x < 65536) : bits .and .u16 x 12 = x / 4 % 4 * 4 := by
  rw [u16_and x 12 h0 h1 (by omega) (by omega), show (12 : Int).toNat = 4 ||| 8 from rfl, Nat.and_or_distrib_left]
  have e4 := nat_bit 2 x.toNat
  have e8 := nat_bit 3 x.toNat
  simp only [Nat.reducePow] at e4 e8
  rw [e4, e8, Nat.or_comm, nat_join 3 _ _ (by simp only [Nat.reducePow]; omega) (by simp only [Nat.reducePow]; omega)]
  omega
theorem or_12 (x y : Int) (h0 : 0 ≤ y) (h1 : y ≤ 2) (hx : 0 ≤ x) (h2 : x < 4) : bits .or .u16 (x * 4) y = x * 4 + y := by
  obtain rfl | rfl | rfl | rfl : x = 0 ∨ x = 1 ∨ x = 2 ∨ x = 3 := by omega
  all_goals (obtain rfl | rfl | rfl : y = 0 ∨ y = 1 ∨ y = 2 := by omega)
  all_goals decide
theorem xor_all (b : Int) (h0 : 0 ≤ b) (h1 : b < 65536) : bits .xor .u16 IntKind.u16.max b = 65535 - b := by
  obtain ⟨b, rfl⟩ := Int.eq_ofNat_of_zero_le h0
  have hb : b < 65536 := by omega
  rw [show IntKind.u16.max = ((65535 : Nat) : Int) from rfl, u16_xor_nat 65535 b (by omega) hb]
  have e : 65535 ^^^ b = 65535 - b := by
    refine Nat.eq_of_testBit_eq fun i => ?_
    have t := Nat.testBit_two_pow_sub_succ (n := 16) (x := b) hb i
    rw [Nat.testBit_xor, show (65535 : Nat) - b = 2 ^ 16 - (b + 1) from by simp only [Nat.reducePow]; omega, t]
    rw [show (65535 : Nat) = 2 ^ 16 - 1 from rfl, Nat.testBit_two_pow_sub_one]
    by_cases hi : i < 16
    · simp [hi]
    · have : b.testBit i = false := Nat.testBit_lt_two_pow (Nat.lt_of_lt_of_le hb (by rw [show 65536 = 2 ^ 16 from rfl]; exact Nat.pow_le_pow_right (by omega) (by omega)))
      simp [hi, this]
  rw [e]; omega
theorem div_in (n d : Int) (h0 : 0 ≤ n) (h1 : n < 65536) (hd : 1 ≤ d) : IntKind.u16.wrap (n.tdiv d) = n / d := by
  rw [Int.tdiv_eq_ediv_of_nonneg h0]
  have := Int.ediv_le_self d h0
  exact wrap_in _ (Int.ediv_nonneg h0 (by omega)) (by omega)
def withI (f r : Int) : Int := f / 4 % 4 * 4 + halfI r
/-- A byte as a word, its sign drawn out. -/
def signI (b : Int) : Int := if 128 ≤ b then 65280 + b else b

def fz (f : Int) : Bool := f % 2 == 1
def fn (f : Int) : Bool := f / 2 % 2 == 1
def fc (f : Int) : Bool := f / 4 % 2 == 1
def fv (f : Int) : Bool := f / 8 % 2 == 1
/-- The conditions, of the four flags. -/
def condB (cc : Int) (z n c v : Bool) : Bool :=
  if cc = 0 then z else if cc = 1 then !z else if cc = 2 then c else if cc = 3 then !c else if cc = 4 then n else if cc = 5 then !n
  else if cc = 6 then v else if cc = 7 then !v else if cc = 8 then c && !z else if cc = 9 then !c || z else if cc = 10 then n == v
  else if cc = 11 then n != v else if cc = 12 then !z && n == v else if cc = 13 then z || n != v else false
def condI (cc f : Int) : Bool := condB cc (fz f) (fn f) (fc f) (fv f)
theorem bit_z (f : Int) (h0 : 0 ≤ f) (h1 : f < 65536) : (bits .and .u16 f 1 != 0) = fz f := by
  rw [and_1 f h0 h1]; unfold fz; rw [Bool.eq_iff_iff]; simp; omega
theorem bit_n (f : Int) (h0 : 0 ≤ f) (h1 : f < 65536) : (bits .and .u16 f 2 != 0) = fn f := by
  rw [and_2 f h0 h1]; unfold fn; rw [Bool.eq_iff_iff]; simp; omega
theorem bit_c (f : Int) (h0 : 0 ≤ f) (h1 : f < 65536) : (bits .and .u16 f 4 != 0) = fc f := by
  rw [and_4 f h0 h1]; unfold fc; rw [Bool.eq_iff_iff]; simp; omega
theorem bit_v (f : Int) (h0 : 0 ≤ f) (h1 : f < 65536) : (bits .and .u16 f 8 != 0) = fv f := by
  rw [and_8 f h0 h1]; unfold fv; rw [Bool.eq_iff_iff]; simp; omega
theorem cc_cases (cc : Int) : (cc < 0 ∨ 14 ≤ cc) ∨ cc = 0 ∨ cc = 1 ∨ cc = 2 ∨ cc = 3 ∨ cc = 4 ∨ cc = 5 ∨ cc = 6 ∨ cc = 7 ∨ cc = 8 ∨ cc = 9 ∨ cc = 10 ∨ cc = 11 ∨ cc = 12 ∨ cc = 13 := by omega
theorem cond_out (cc f : Int) (h : cc < 0 ∨ 14 ≤ cc) : condI cc f = false := by
  unfold condI condB; repeat (rw [if_neg (by omega)])
end Go.Proofs.Ytgdiaaoekkdibaa
