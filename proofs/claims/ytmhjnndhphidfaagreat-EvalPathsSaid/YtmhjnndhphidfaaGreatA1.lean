/- An evaluator of the program's code over values without addresses: the data and the functions. The compiler of the program's functions to the evaluator's code. -/
import GoSem.Dispatch
namespace Go.Ab
set_option maxRecDepth 8000
set_option linter.unusedSimpArgs false
set_option linter.unusedVariables false
/-- Values without references to memory that may change: numbers, strings, slices whose elements no longer change (by the cells of each element), structs (by their cells). -/
inductive PV where
  | bool (b : Bool)
  | int (k : IntKind) (n : Int)
  | str (s : List Nat)
  | fz (es : List (List PV))
  | agg (cs : List PV)
/-- Values: 'lit' is a slice whose capacity is its length; 'row id s i len' lies in the object id, whose elements have s cells; 'ptr id i off' is cell off of its element i. -/
inductive AV where
  | p (v : PV)
  | nils
  | lit (es : List (List PV))
  | row (id s i len : Nat)
  | ptr (id i off : Nat)
  | fptr (es : List (List PV)) (i off : Nat)
  | nilp
  | map (id : Nat)
  | nilm
  | fn (f : Nat) (first captured : List AV)
  | nilf
  | iface (t : Nat) (v : AV)
  | nili
  | agg (cs : List AV)
  | tup (vs : List AV)
inductive Ob where
  | pr (es : List (List PV))
  | cells (es : List (List AV))
  | pmap (es : List (PV × PV))
  | map (es : List (PV × AV))
  | dead
abbrev Objs := List (Nat × Ob)
structure Mem where
  next : Nat
  objs : Objs
/-! ### Elimination, a step each (the kernel runs these) -/
section
variable {α β : Type}
@[reducible] noncomputable def ob (x : Option α) (f : α → Option β) : Option β := Option.rec (motive := fun _ => Option β) none f x
@[reducible] noncomputable def bf (c : Bool) (x y : α) : α := Bool.rec (motive := fun _ => α) y x c
noncomputable def nth (l : List α) : Nat → Option α :=
  List.rec (motive := fun _ => Nat → Option α) (fun _ => none) (fun a _ ih i => Nat.casesOn (motive := fun _ => Option α) i (some a) (fun j => ih j)) l
noncomputable def setN (v : α) (l : List α) : Nat → List α :=
  List.rec (motive := fun _ => Nat → List α) (fun _ => []) (fun a l ih i => Nat.casesOn (motive := fun _ => List α) i (v :: l) (fun j => a :: ih j)) l
noncomputable def mapO (f : α → Option β) (l : List α) : Option (List β) :=
  List.rec (motive := fun _ => Option (List β)) (some []) (fun a _ ih => ob (f a) fun b => ob ih fun bs => some (b :: bs)) l
noncomputable def len (l : List α) : Nat := List.rec (motive := fun _ => Nat) 0 (fun _ _ n => Nat.succ n) l
noncomputable def app (l m : List α) : List α := List.rec (motive := fun _ => List α) m (fun a _ ih => a :: ih) l
noncomputable def dropN (l : List α) : Nat → List α :=
  List.rec (motive := fun _ => Nat → List α) (fun _ => []) (fun a l ih i => Nat.casesOn (motive := fun _ => List α) i (a :: l) (fun j => ih j)) l
noncomputable def takeN (l : List α) : Nat → List α :=
  List.rec (motive := fun _ => Nat → List α) (fun _ => []) (fun a l ih i => Nat.casesOn (motive := fun _ => List α) i [] (fun j => a :: ih j)) l
noncomputable def mapL (f : α → β) (l : List α) : List β := List.rec (motive := fun _ => List β) [] (fun a _ ih => f a :: ih) l
noncomputable def allL (f : α → Bool) (l : List α) : Bool := List.rec (motive := fun _ => Bool) true (fun a _ ih => bf (f a) ih false) l
end
noncomputable def getO (id : Nat) (l : Objs) : Option Ob :=
  List.rec (motive := fun _ => Option Ob) none (fun p _ ih => bf (Nat.beq id p.1) (some p.2) ih) l
noncomputable def setO (id : Nat) (x : Ob) (l : Objs) : Objs :=
  List.rec (motive := fun _ => Objs) [] (fun p l ih => bf (Nat.beq id p.1) ((p.1, x) :: l) (p :: ih)) l
@[reducible] def Mem.new (M : Mem) (o : Ob) : Mem := ⟨M.next + 1, (M.next, o) :: M.objs⟩
noncomputable def Mem.upd (M : Mem) (id : Nat) (o : Ob) : Mem := ⟨M.next, setO id o M.objs⟩
noncomputable def pure? (v : AV) : Option PV :=
  AV.casesOn (motive_1 := fun _ => Option PV) v some none (fun _ => none) (fun _ _ _ _ => none) (fun _ _ _ => none) (fun _ _ _ => none) none (fun _ => none) none (fun _ _ _ => none) none (fun _ _ => none) none (fun _ => none) (fun _ => none)
noncomputable def mkAgg (cs : List AV) : AV := Option.rec (motive := fun _ => AV) (.agg cs) (fun ps => .p (.agg ps)) (mapO pure? cs)
noncomputable def cellsP (v : PV) : List AV := PV.casesOn (motive_1 := fun _ => List AV) v (fun b => [.p (.bool b)]) (fun k n => [.p (.int k n)]) (fun s => [.p (.str s)]) (fun es => [.p (.fz es)]) (fun cs => mapL .p cs)
noncomputable def cellsA (v : AV) : List AV :=
  AV.casesOn (motive_1 := fun _ => AV → List AV) v (fun v _ => cellsP v) (fun v => [v]) (fun _ v => [v]) (fun _ _ _ _ v => [v]) (fun _ _ _ v => [v]) (fun _ _ _ v => [v]) (fun v => [v]) (fun _ v => [v]) (fun v => [v]) (fun _ _ _ v => [v]) (fun v => [v]) (fun _ _ v => [v]) (fun v => [v]) (fun cs _ => cs) (fun _ v => [v]) v
noncomputable def notAgg (v : PV) : Bool := PV.casesOn (motive_1 := fun _ => Bool) v (fun _ => true) (fun _ _ => true) (fun _ => true) (fun _ => true) (fun _ => false)
noncomputable def isCell (v : AV) : Bool :=
  AV.casesOn (motive_1 := fun _ => Bool) v notAgg true (fun _ => true) (fun _ _ _ _ => true) (fun _ _ _ => true) (fun _ _ _ => true) true (fun _ => true) true (fun _ _ _ => true) true (fun _ _ => true) true (fun _ => false) (fun _ => false)
noncomputable def mkRow (es : List (List AV)) : Ob := Option.rec (motive := fun _ => Ob) (.cells es) .pr (mapO (mapO pure?) es)
/-- n = none: one cell. -/
noncomputable def mkVal (n : Option Nat) (cs : List AV) : Option AV :=
  Option.rec (motive := fun _ => Option AV) (nth cs 0) (fun n => bf (Nat.ble n (len cs)) (some (mkAgg (takeN cs n))) none) n
/-- The elements of a row. -/
noncomputable def view (o : Ob) : Option (List (List AV)) :=
  Ob.casesOn (motive := fun _ => Option (List (List AV))) o (fun es => some (mapL (mapL .p) es)) some (fun _ => none) (fun _ => none) none
noncomputable def elemO (o : Ob) (i : Nat) : Option (List AV) :=
  Ob.casesOn (motive := fun _ => Option (List AV)) o (fun es => ob (nth es i) fun c => some (mapL .p c)) (fun es => nth es i) (fun _ => none) (fun _ => none) none
noncomputable def sizeO (o : Ob) : Nat := Ob.casesOn (motive := fun _ => Nat) o len len (fun _ => 0) (fun _ => 0) 0
noncomputable def subO (o : Ob) (i n : Nat) : Option Ob :=
  Ob.casesOn (motive := fun _ => Option Ob) o (fun es => bf (Nat.ble (i + n) (len es)) (some (.pr (takeN (dropN es i) n))) none)
    (fun es => bf (Nat.ble (i + n) (len es)) (some (.cells (takeN (dropN es i) n))) none) (fun _ => none) (fun _ => none) none
noncomputable def appendO (a b : Ob) : Option Ob :=
  Ob.casesOn (motive := fun _ => Option Ob) a
    (fun x => Ob.casesOn (motive := fun _ => Option Ob) b (fun y => some (.pr (app x y))) (fun y => some (.cells (app (mapL (mapL .p) x) y))) (fun _ => none) (fun _ => none) none)
    (fun x => Ob.casesOn (motive := fun _ => Option Ob) b (fun y => some (.cells (app x (mapL (mapL .p) y)))) (fun y => some (.cells (app x y))) (fun _ => none) (fun _ => none) none)
    (fun _ => none) (fun _ => none) none
noncomputable def putAt {α : Type} (c : List α) (off : Nat) (vs : List α) : List α := app (takeN c off) (app vs (dropN c (off + len vs)))
noncomputable def putO (i off : Nat) (o : Ob) : List AV → Option Ob :=
  Ob.casesOn (motive := fun _ => List AV → Option Ob) o
    (fun es vs => ob (nth es i) fun c => bf (Nat.ble (off + len vs) (len c))
      (Option.rec (motive := fun _ => Option Ob) (some (.cells (setN (putAt (mapL .p c) off vs) (mapL (mapL .p) es) i))) (fun ps => some (.pr (setN (putAt c off ps) es i))) (mapO pure? vs)) none)
    (fun es vs => ob (nth es i) fun c => bf (Nat.ble (off + len vs) (len c)) (some (.cells (setN (putAt c off vs) es i))) none)
    (fun _ _ => none) (fun _ _ => none) (fun _ => none)
/-! ### Constants -/
def mapC {α β : Type} (f : α → Option β) : List α → Option (List β)
  | [] => some []
  | a :: l => match f a with
    | some b => match mapC f l with
      | some m => some (b :: m)
      | none => none
    | none => none
def purC : AV → Option PV
  | .p v => some v
  | _ => none
def cellC : AV → Bool
  | .agg _ | .tup _ | .p (.agg _) => false
  | _ => true
def ofValue : Nat → Value → Option AV
  | 0, _ => none
  | n + 1, v => match v with
    | .bool b => some (.p (.bool b))
    | .int k x => some (.p (.int k x))
    | .string s => some (.p (.str (s.data.toList.map UInt8.toNat)))
    | .pointer none => some .nilp
    | .slice none 0 0 => some .nils
    | .map none => some .nilm
    | .nilFunc => some .nilf
    | .nilIface => some .nili
    | .func (.func f) ⟨[]⟩ ⟨[]⟩ => some (.fn f [] [])
    | .agg cs => match mapC (ofValue n) cs.toList with
      | some l => if l.all cellC then match mapC purC l with
        | some ps => some (.p (.agg ps))
        | none => some (.agg l)
        else none
      | none => none
    | .tuple ⟨[]⟩ => some (.tup [])
    | _ => none
/-! ### Compiled operations -/
inductive Opd where
  | old (i : Nat)
  | res (d : Nat)
  | const (v : AV)
/-- They leave the memory as it is. -/
inductive POp where
  | mv (x : Opd)
  | pick (c a b : Opd)
  | load (n : Option Nat) (x : Opd)
  | fieldA (off : Nat) (x : Opd)
  | indexA (s : Nat) (x i : Opd)
  | indexAr (len s : Nat) (x i : Opd)
  | index (x i : Opd)
  | bin (k : Nat) (op : BinOp) (x y : Opd)
  | eqT (ks : List Nat) (op : BinOp) (x y : Opd)
  | not (x : Opd)
  | neg (x : Opd)
  | nilCheck (x : Opd)
  | build (zero : List AV) (parts : List (Nat × Nat × Opd))
  | extract (x : Opd) (i : Nat)
  | lookup (kk : Nat) (zero : AV) (ok : Bool) (m k : Opd)
  | len (k : Nat) (x : Opd)
  | max (a b : Opd)
  | min (a b : Opd)
  | slice (s : Nat) (x : Opd) (lo hi : Option Opd)
  | conv (k : IntKind) (x : Opd)
  | b2s (x : Opd)
  | mkfn (f : Nat) (first captured : List Opd)
  | mkiface (t : Nat) (x : Opd)
  | field (n : Option Nat) (off : Nat) (x : Opd)
/-- They make an object, or none. -/
inductive NOp where
  | buildSlice (mode : Nat) (s : Nat) (zero : List AV) (parts : List (Option Opd))
  | alloc (zero : List AV)
  | box (x : Opd)
  | mkmap
  | s2b (x : Opd)
inductive EOp where
  | store (n : Nat) (x v : Opd)
  | mapSet (kk : Nat) (m k v : Opd)
  | mkslice (zero : List AV) (l c : Opd)
  | append (s : Nat) (a b : Opd)
  | delete (kk : Nat) (m k : Opd)
  | copy (a b : Opd)
inductive Ac where
  | p (op : POp)
  | chk (x : Opd) (op : POp) (r : Opd)
  | n (op : NOp)
  | nw (q : Nat) (op : NOp)
  | fl (qs : List Nat)
  | e (op : EOp) (t : Bool)
  | call (f : Opd) (args : List Opd) (t : Bool)
  | panic (x : Opd)
  | bad
structure It where
  act : Ac
  guard : Option (Opd × Bool)
/-- The tree of a region that draws its order: what is done behind an effect, then one tree for each effect that may come next. -/
inductive DT where
  | node (its : List It) (wb : List (Nat × Nat)) (kids : List DT)
inductive CCode where
  | skip
  | reg (its : List It) (wb : List (Nat × Nat))
  | dreg (r : Nat) (t : DT)
  | amb (slot : Nat) (ws : List Nat) (b : CCode)
  | seq (a b : CCode)
  | cond (c : Nat) (a b : CCode)
  | block (id : Nat) (b : CCode)
  | loop (b : CCode)
  | exit (id : Nat)
  | ret
  | bad
inductive RV where
  | slot (i : Nat)
  | cell (i : Nat) (n : Option Nat)
structure CFunc where
  np : Nat
  nslots : Nat
  body : CCode
  results : List RV
abbrev Fr := List AV
inductive Rs where
  | ret (v : AV)
  | pan (v : AV)
inductive Ex where
  | normal | exit (id : Nat) | ret | pan (v : AV)
@[reducible] def undefA : AV := .tup []
noncomputable def opd (x : Opd) (fr : Fr) (env : List AV) : Option AV :=
  Opd.casesOn (motive := fun _ => Fr → List AV → Option AV) x (fun i fr _ => nth fr i) (fun d _ env => nth env d) (fun v _ _ => some v) fr env
noncomputable def opds (l : List Opd) (fr : Fr) (env : List AV) : Option (List AV) := mapO (fun x => opd x fr env) l
/-! ### Shapes -/
noncomputable def asP (v : AV) : Option PV :=
  AV.casesOn (motive_1 := fun _ => Option PV) v some none (fun _ => none) (fun _ _ _ _ => none) (fun _ _ _ => none) (fun _ _ _ => none) none (fun _ => none) none (fun _ _ _ => none) none (fun _ _ => none) none (fun _ => none) (fun _ => none)
noncomputable def piI (v : PV) : Option (IntKind × Int) := PV.casesOn (motive_1 := fun _ => Option (IntKind × Int)) v (fun _ => none) (fun k n => some (k, n)) (fun _ => none) (fun _ => none) (fun _ => none)
noncomputable def piB (v : PV) : Option Bool := PV.casesOn (motive_1 := fun _ => Option Bool) v some (fun _ _ => none) (fun _ => none) (fun _ => none) (fun _ => none)
noncomputable def piS (v : PV) : Option (List Nat) := PV.casesOn (motive_1 := fun _ => Option (List Nat)) v (fun _ => none) (fun _ _ => none) some (fun _ => none) (fun _ => none)
noncomputable def asI (v : AV) : Option (IntKind × Int) := ob (asP v) piI
noncomputable def asB (v : AV) : Option Bool := ob (asP v) piB
noncomputable def asS (v : AV) : Option (List Nat) := ob (asP v) piS
noncomputable def natOf (n : Int) : Option Nat := Int.casesOn (motive := fun _ => Option Nat) n some (fun _ => none)
noncomputable def asN (v : AV) : Option Nat := ob (asI v) fun x => natOf x.2
noncomputable def beqI (a b : Int) : Bool := Int.casesOn (motive := fun _ => Bool) a
  (fun a => Int.casesOn (motive := fun _ => Bool) b (fun b => Nat.beq a b) (fun _ => false)) (fun a => Int.casesOn (motive := fun _ => Bool) b (fun _ => false) (fun b => Nat.beq a b))
noncomputable def leI (a b : Int) : Bool := Int.casesOn (motive := fun _ => Bool) a
  (fun a => Int.casesOn (motive := fun _ => Bool) b (fun b => Nat.ble a b) (fun _ => false)) (fun a => Int.casesOn (motive := fun _ => Bool) b (fun _ => true) (fun b => Nat.ble b a))
def limI (k : IntKind) : Nat := IntKind.casesOn (motive := fun _ => Nat) k 128 32768 2147483648 9223372036854775808 256 65536 4294967296 18446744073709551616
def uns (k : IntKind) : Bool := IntKind.casesOn (motive := fun _ => Bool) k false false false false true true true true
/-- Wrapping; for a kind without sign what comes out is 'ofNat' of something, whatever the number is. -/
noncomputable def wrapN (k : IntKind) (n : Int) : Int := Int.casesOn (motive := fun _ => Int → Int) n (fun m n => bf (uns k) (Int.ofNat (Nat.mod m (limI k))) (bf (Nat.blt m (limI k)) n (k.wrap n))) (fun _ n => k.wrap n) n
noncomputable def subN (k : IntKind) (a b : Int) : Int := Int.casesOn (motive := fun _ => Int → Int → Int) a
  (fun m a b => Int.casesOn (motive := fun _ => Int → Int → Int) b (fun n a b => bf (uns k) (Int.ofNat (Nat.mod (Nat.add m (Nat.sub (limI k) (Nat.mod n (limI k)))) (limI k))) (wrapN k (Int.sub a b))) (fun _ a b => wrapN k (Int.sub a b)) a b)
  (fun _ a b => wrapN k (Int.sub a b)) a b
noncomputable def shrN (a : Int) (n : Nat) : Int := Int.casesOn (motive := fun _ => Int → Int) a (fun m _ => Int.ofNat (Nat.div m (Nat.pow 2 n))) (fun _ a => a.fdiv (2 ^ n)) a
noncomputable def wrapI (k : IntKind) (n : Int) : AV := .p (.int k (wrapN k n))
def keq (k l : IntKind) : Bool := Nat.beq k.ctorIdx l.ctorIdx
noncomputable def eqS (a : List Nat) : List Nat → Bool :=
  List.rec (motive := fun _ => List Nat → Bool) (fun b => List.casesOn (motive := fun _ => Bool) b true (fun _ _ => false))
    (fun x _ ih b => List.casesOn (motive := fun _ => Bool) b false (fun y m => bf (Nat.beq x y) (ih m) false)) a
noncomputable def ltS (a : List Nat) : List Nat → Bool :=
  List.rec (motive := fun _ => List Nat → Bool) (fun b => List.casesOn (motive := fun _ => Bool) b false (fun _ _ => true))
    (fun x _ ih b => List.casesOn (motive := fun _ => Bool) b false (fun y m => bf (Nat.blt x y) true (bf (Nat.beq x y) (ih m) false))) a
@[reducible] def pb (b : Bool) : Option AV := some (.p (.bool b))
noncomputable def nt (b : Bool) : Bool := bf b false true
noncomputable def eqBb (x y : Bool) : Bool := bf x y (nt y)
noncomputable def binI (op : BinOp) : IntKind → Int → IntKind → Int → Option AV :=
  BinOp.casesOn (motive := fun _ => IntKind → Int → IntKind → Int → Option AV) op
    (fun k a l b => bf (keq k l) (some (wrapI k (Int.add a b))) none)
    (fun k a l b => bf (keq k l) (some (.p (.int k (subN k a b)))) none)
    (fun k a l b => bf (keq k l) (some (wrapI k (Int.mul a b))) none)
    (fun k a l b => bf (keq k l) (bf (beqI b 0) none (some (wrapI k (Int.tdiv a b)))) none)
    (fun k a l b => bf (keq k l) (bf (beqI b 0) none (some (.p (.int k (Int.tmod a b))))) none)
    (fun k a l b => bf (keq k l) (some (wrapI k ((BitVec.ofInt k.bits a) &&& (BitVec.ofInt k.bits b)).toNat)) none)
    (fun k a l b => bf (keq k l) (some (wrapI k ((BitVec.ofInt k.bits a) ||| (BitVec.ofInt k.bits b)).toNat)) none)
    (fun k a l b => bf (keq k l) (some (wrapI k ((BitVec.ofInt k.bits a) ^^^ (BitVec.ofInt k.bits b)).toNat)) none)
    (fun k a _ b => ob (natOf b) fun n => some (wrapI k (a * 2 ^ (min n k.bits))))
    (fun k a _ b => ob (natOf b) fun n => some (.p (.int k (shrN a (min n k.bits)))))
    (fun _ _ _ _ => none)
    (fun k a l b => bf (keq k l) (pb (beqI a b)) none)
    (fun k a l b => bf (keq k l) (pb (nt (beqI a b))) none)
    (fun k a l b => bf (keq k l) (pb (nt (leI b a))) none)
    (fun k a l b => bf (keq k l) (pb (leI a b)) none)
    (fun k a l b => bf (keq k l) (pb (nt (leI a b))) none)
    (fun k a l b => bf (keq k l) (pb (leI b a)) none)
noncomputable def binS (op : BinOp) : List Nat → List Nat → Option AV :=
  BinOp.casesOn (motive := fun _ => List Nat → List Nat → Option AV) op
    (fun a b => bf (Nat.ble (len a + len b) 1073741824) (some (.p (.str (app a b)))) none) (fun _ _ => none) (fun _ _ => none) (fun _ _ => none) (fun _ _ => none) (fun _ _ => none) (fun _ _ => none) (fun _ _ => none) (fun _ _ => none) (fun _ _ => none) (fun _ _ => none)
    (fun a b => pb (eqS a b)) (fun a b => pb (nt (eqS a b))) (fun a b => pb (ltS a b)) (fun _ _ => none) (fun _ _ => none) (fun _ _ => none)
noncomputable def eqOp (op : BinOp) (r : Bool) : Option AV :=
  BinOp.casesOn (motive := fun _ => Bool → Option AV) op
    (fun _ => none) (fun _ => none) (fun _ => none) (fun _ => none) (fun _ => none) (fun _ => none) (fun _ => none) (fun _ => none) (fun _ => none) (fun _ => none) (fun _ => none)
    pb (fun r => pb (nt r)) (fun _ => none) (fun _ => none) (fun _ => none) (fun _ => none) r
/-- Are two scalars equal? -/
noncomputable def eq1 (a b : PV) : Option Bool :=
  PV.casesOn (motive_1 := fun _ => PV → Option Bool) a
    (fun x b => ob (piB b) fun y => some (eqBb x y))
    (fun k x b => ob (piI b) fun y => bf (keq k y.1) (some (beqI x y.2)) none)
    (fun x b => ob (piS b) fun y => some (eqS x y))
    (fun _ _ => none) (fun _ _ => none) b
noncomputable def binIS (op : BinOp) (a b : PV) : Option AV :=
  PV.casesOn (motive_1 := fun _ => BinOp → PV → Option AV) a (fun _ _ _ => none) (fun k x op b => ob (piI b) fun y => binI op k x y.1 y.2) (fun x op b => ob (piS b) fun y => binS op x y) (fun _ _ _ => none) (fun _ _ _ => none) op b
noncomputable def piA (v : PV) : Option (List PV) := PV.casesOn (motive_1 := fun _ => Option (List PV)) v (fun _ => none) (fun _ _ => none) (fun _ => none) (fun _ => none) some
/-- Is it nil? (interfaces, pointers) -/
noncomputable def nilI (v : AV) : Option (Nat × Bool) :=
  AV.casesOn (motive_1 := fun _ => Option (Nat × Bool)) v (fun _ => none) none (fun _ => none) (fun _ _ _ _ => none) (fun _ _ _ => some (1, false)) (fun _ _ _ => some (1, false)) (some (1, true)) (fun _ => none) none (fun _ _ _ => none) none (fun _ _ => some (0, false)) (some (0, true)) (fun _ => none) (fun _ => none)
/-- k: 0 numbers and strings, 1 bools, 2 interfaces and 3 pointers of which the second one is nil. -/
noncomputable def binA (k : Nat) (op : BinOp) (x y : AV) : Option AV :=
  Nat.casesOn (motive := fun _ => Option AV) k (ob (asP x) fun a => ob (asP y) fun b => binIS op a b) (fun k =>
    Nat.casesOn (motive := fun _ => Option AV) k (ob (asB x) fun a => ob (asB y) fun b => eqOp op (eqBb a b)) (fun k => ob (nilI x) fun a => ob (nilI y) fun b => bf (Nat.beq a.1 k) (bf (Nat.beq b.1 k) (bf b.2 (eqOp op a.2) none) none) none))
noncomputable def kindP (v : PV) : Nat := PV.casesOn (motive_1 := fun _ => Nat) v (fun _ => 0) (fun _ _ => 1) (fun _ => 2) (fun _ => 3) (fun _ => 3)
/-- Structs of scalars of known kinds: are they equal? -/
noncomputable def eqK (ks : List Nat) : List PV → List PV → Option Bool :=
  List.rec (motive := fun _ => List PV → List PV → Option Bool) (fun a b => List.casesOn (motive := fun _ => Option Bool) a (List.casesOn (motive := fun _ => Option Bool) b (some true) (fun _ _ => none)) (fun _ _ => none))
    (fun k _ ih a b => List.casesOn (motive := fun _ => Option Bool) a none (fun x l => List.casesOn (motive := fun _ => Option Bool) b none (fun y m => bf (Nat.beq (kindP x) k) (ob (eq1 x y) fun r => ob (ih l m) fun s => some (bf r s false)) none))) ks
/-- The kind of a key: a struct of n numbers is 4 + n. -/
noncomputable def kindK (v : PV) : Nat := PV.casesOn (motive_1 := fun _ => Nat) v (fun _ => 0) (fun _ _ => 1) (fun _ => 2) (fun _ => 3) (fun cs => bf (allL (fun c => Nat.beq (kindP c) 1) cs) (4 + len cs) 3)
/-- Are two keys equal? -/
noncomputable def eqKy (a b : PV) : Option Bool :=
  PV.casesOn (motive_1 := fun _ => PV → PV → Option Bool) a (fun _ => eq1) (fun _ _ => eq1) (fun _ => eq1) (fun _ => eq1) (fun cs _ b => ob (piA b) fun ds => eqK (mapL kindP cs) cs ds) a b
noncomputable def bytes (s : List Nat) : List (List PV) := mapL (fun b => [.int .u8 (Int.ofNat b)]) s
/-- The elements of a slice, for a copy of them. -/
noncomputable def elemsOf (objs : Objs) (v : AV) : Option Ob :=
  AV.casesOn (motive_1 := fun _ => Objs → Option Ob) v
    (fun v _ => PV.casesOn (motive_1 := fun _ => Option Ob) v (fun _ => none) (fun _ _ => none) (fun s => some (.pr (bytes s))) (fun es => some (.pr es)) (fun _ => none))
    (fun _ => some (.pr [])) (fun es _ => some (.pr es)) (fun id _ i n objs => ob (getO id objs) fun o => subO o i n) (fun _ _ _ _ => none) (fun _ _ _ _ => none) (fun _ => none) (fun _ _ => none) (fun _ => none) (fun _ _ _ _ => none) (fun _ => none) (fun _ _ _ => none) (fun _ => none) (fun _ _ => none) (fun _ _ => none) objs
/-- The length of a slice. -/
noncomputable def lenS (v : AV) : Option Nat :=
  AV.casesOn (motive_1 := fun _ => Option Nat) v
    (fun v => PV.casesOn (motive_1 := fun _ => Option Nat) v (fun _ => none) (fun _ _ => none) (fun _ => none) (fun es => some (len es)) (fun _ => none))
    (some 0) (fun es => some (len es)) (fun _ _ _ n => some n) (fun _ _ _ => none) (fun _ _ _ => none) none (fun _ => none) none (fun _ _ _ => none) none (fun _ _ => none) none (fun _ => none) (fun _ => none)
section
variable {α : Type}
noncomputable def getK (k : PV) (l : List (PV × α)) : Option (Option α) :=
  List.rec (motive := fun _ => Option (Option α)) (some none) (fun p _ ih => ob (eqKy k p.1) fun r => bf r (some (some p.2)) ih) l
noncomputable def putK (k : PV) (v : α) (l : List (PV × α)) : Option (List (PV × α)) :=
  List.rec (motive := fun _ => Option (List (PV × α))) (some [(k, v)]) (fun p l ih => ob (eqKy k p.1) fun r => bf r (some ((k, v) :: l)) (ob ih fun m => some (p :: m))) l
noncomputable def delK (k : PV) (l : List (PV × α)) : Option (List (PV × α)) :=
  List.rec (motive := fun _ => Option (List (PV × α))) (some []) (fun p l ih => ob (eqKy k p.1) fun r => bf r (some l) (ob ih fun m => some (p :: m))) l
end
noncomputable def asMap {α : Type} (o : Ob) (f : List (PV × PV) → Option α) (g : List (PV × AV) → Option α) : Option α :=
  Ob.casesOn (motive := fun _ => (List (PV × PV) → Option α) → (List (PV × AV) → Option α) → Option α) o (fun _ _ _ => none) (fun _ _ _ => none) (fun l f _ => f l) (fun l _ g => g l) (fun _ _ => none) f g
noncomputable def valMap (l : List (PV × PV)) : List (PV × AV) := mapL (fun p => (p.1, .p p.2)) l
noncomputable def loadA (objs : Objs) (n : Option Nat) (v : AV) : Option AV :=
  AV.casesOn (motive_1 := fun _ => Option Nat → Objs → Option AV) v (fun _ _ _ => none) (fun _ _ => none) (fun _ _ _ => none) (fun _ _ _ _ _ _ => none)
    (fun id i off n objs => ob (getO id objs) fun o => ob (elemO o i) fun c => mkVal n (dropN c off))
    (fun es i off n _ => ob (nth es i) fun c => Option.rec (motive := fun _ => Option AV) (ob (nth c off) fun v => some (.p v)) (fun n => bf (Nat.ble (off + n) (len c)) (some (.p (.agg (takeN (dropN c off) n)))) none) n)
    (fun _ _ => none) (fun _ _ _ => none) (fun _ _ => none) (fun _ _ _ _ _ => none) (fun _ _ => none) (fun _ _ _ _ => none) (fun _ _ => none) (fun _ _ _ => none) (fun _ _ _ => none) n objs
noncomputable def fillParts (fr : Fr) (env : List AV) (l : List (Nat × Nat × Opd)) : List AV → Option (List AV) :=
  List.rec (motive := fun _ => List AV → Option (List AV)) some (fun p _ ih cs => ob (opd p.2.2 fr env) fun v => bf (Nat.beq (len (cellsA v)) p.2.1) (bf (Nat.ble (p.1 + p.2.1) (len cs)) (bf (allL isCell (cellsA v)) (ih (putAt cs p.1 (cellsA v))) none) none) none) l
noncomputable def buildElems (fr : Fr) (env : List AV) (s : Nat) (zero : List AV) (l : List (Option Opd)) : Option (List (List AV)) :=
  mapO (fun x => Option.rec (motive := fun _ => Option (List AV)) (some zero) (fun x => ob (opd x fr env) fun v => bf (Nat.beq (len (cellsA v)) s) (bf (allL isCell (cellsA v)) (some (cellsA v)) none) none) x) l
noncomputable def bound (x : Option Opd) (d : Nat) (fr : Fr) (env : List AV) : Option Nat := Option.rec (motive := fun _ => Option Nat) (some d) (fun x => ob (opd x fr env) asN) x
/-- The elements have s cells. -/
noncomputable def sized {α : Type} (s : Nat) (es : List (List α)) : Bool := List.casesOn (motive := fun _ => Bool) es true (fun c _ => Nat.beq (len c) s)
noncomputable def subA (s l n : Nat) (x : AV) : Option AV :=
  Nat.casesOn (motive := fun _ => Option AV) s (ob (asS x) fun st => some (.p (.str (takeN (dropN st l) n)))) (fun s' =>
    AV.casesOn (motive_1 := fun _ => Option AV) x
      (fun v => PV.casesOn (motive_1 := fun _ => Option AV) v (fun _ => none) (fun _ _ => none) (fun _ => none) (fun es => bf (sized (s' + 1) es) (some (.p (.fz (takeN (dropN es l) n)))) none) (fun _ => none))
      (some .nils) (fun es => bf (sized (s' + 1) es) (some (.p (.fz (takeN (dropN es l) n)))) none) (fun id t i _ => bf (Nat.beq (s' + 1) t) (some (.row id t (i + l) n)) none) (fun _ _ _ => none) (fun _ _ _ => none) none (fun _ => none) none (fun _ _ _ => none) none (fun _ _ => none) none (fun _ => none) (fun _ => none))
noncomputable def ptrCases {α : Type} (v : AV) (f : Nat → Nat → Nat → Option α) (g : List (List PV) → Nat → Nat → Option α) : Option α :=
  AV.casesOn (motive_1 := fun _ => (Nat → Nat → Nat → Option α) → (List (List PV) → Nat → Nat → Option α) → Option α) v (fun _ _ _ => none) (fun _ _ => none) (fun _ _ _ => none) (fun _ _ _ _ _ _ => none)
    (fun id i off f _ => f id i off) (fun es i off _ g => g es i off) (fun _ _ => none) (fun _ _ _ => none) (fun _ _ => none) (fun _ _ _ _ _ => none) (fun _ _ => none) (fun _ _ _ _ => none) (fun _ _ => none) (fun _ _ _ => none) (fun _ _ _ => none) f g
noncomputable def indexF (s : Nat) (es : List (List PV)) (n : Nat) : Option AV := ob (nth es n) fun c => bf (Nat.beq (len c) s) (some (.fptr es n 0)) none
noncomputable def indexV (s : Nat) (x : AV) (n : Nat) : Option AV :=
  AV.casesOn (motive_1 := fun _ => Nat → Option AV) x
    (fun v n => PV.casesOn (motive_1 := fun _ => Option AV) v (fun _ => none) (fun _ _ => none) (fun _ => none) (fun es => indexF s es n) (fun _ => none))
    (fun _ => none) (fun es n => indexF s es n) (fun id s' i l n => bf (Nat.beq s s') (bf (Nat.blt n l) (some (.ptr id (i + n) 0)) none) none) (fun _ _ _ _ => none) (fun _ _ _ _ => none) (fun _ => none) (fun _ _ => none) (fun _ => none) (fun _ _ _ _ => none) (fun _ => none) (fun _ _ _ => none) (fun _ => none) (fun _ _ => none) (fun _ _ => none) n
noncomputable def asTup (v : AV) : Option (List AV) :=
  AV.casesOn (motive_1 := fun _ => Option (List AV)) v (fun _ => none) none (fun _ => none) (fun _ _ _ _ => none) (fun _ _ _ => none) (fun _ _ _ => none) none (fun _ => none) none (fun _ _ _ => none) none (fun _ _ => none) none (fun _ => none) some
noncomputable def mapCases {α : Type} (v : AV) (f : Nat → Option α) (g : Option α) : Option α :=
  AV.casesOn (motive_1 := fun _ => (Nat → Option α) → Option α → Option α) v (fun _ _ _ => none) (fun _ _ => none) (fun _ _ _ => none) (fun _ _ _ _ _ _ => none) (fun _ _ _ _ _ => none) (fun _ _ _ _ _ => none) (fun _ _ => none)
    (fun id f _ => f id) (fun _ g => g) (fun _ _ _ _ _ => none) (fun _ _ => none) (fun _ _ _ _ => none) (fun _ _ => none) (fun _ _ _ => none) (fun _ _ _ => none) f g
noncomputable def asFn (v : AV) : Option (Nat × List AV × List AV) :=
  AV.casesOn (motive_1 := fun _ => Option (Nat × List AV × List AV)) v (fun _ => none) none (fun _ => none) (fun _ _ _ _ => none) (fun _ _ _ => none) (fun _ _ _ => none) none (fun _ => none) none (fun f a b => some (f, a, b)) none (fun _ _ => none) none (fun _ => none) (fun _ => none)
noncomputable def okPtr (v : AV) : Option AV :=
  AV.casesOn (motive_1 := fun _ => AV → Option AV) v (fun _ _ => none) (fun _ => none) (fun _ _ => none) (fun _ _ _ _ _ => none) (fun _ _ _ v => some v) (fun _ _ _ v => some v) (fun _ => none) (fun _ _ => none) (fun _ => none) (fun _ _ _ v => some v) (fun _ => none) (fun _ _ _ => none) (fun _ => none) (fun _ _ => none) (fun _ _ => none) v
noncomputable def byteOf (c : List PV) : Option Nat := ob (nth c 0) fun v => ob (piI v) fun x => bf (keq x.1 .u8) (bf (Nat.beq (len c) 1) (natOf x.2) none) none
noncomputable def lookRes (ok : Bool) (v : AV) (t : Bool) : AV := bf ok (.tup [v, .p (.bool t)]) v
noncomputable def look (zero : AV) (ok : Bool) (r : Option AV) : AV :=
  Option.rec (motive := fun _ => AV) (lookRes ok zero false) (fun v => lookRes ok v true) r
/-- The object that an operation reads. -/
noncomputable def idOf (v : AV) : Option Nat :=
  AV.casesOn (motive_1 := fun _ => Option Nat) v (fun _ => none) none (fun _ => none) (fun id _ _ _ => some id) (fun id _ _ => some id) (fun _ _ _ => none) none some none (fun _ _ _ => none) none (fun _ _ => none) none (fun _ => none) (fun _ => none)
/-- The length of a string (k = 0), a slice (1), a map (2). -/
noncomputable def lenK (k : Nat) (objs : Objs) (v : AV) : Option Nat :=
  Nat.casesOn (motive := fun _ => Option Nat) k (ob (asS v) fun s => some (len s)) (fun k => Nat.casesOn (motive := fun _ => Option Nat) k (lenS v)
    (fun _ => mapCases v (fun id => ob (getO id objs) fun o => asMap o (fun l => some (len l)) (fun l => some (len l))) (some 0)))
noncomputable def aggCells (v : AV) : Option (List AV) :=
  AV.casesOn (motive_1 := fun _ => Option (List AV)) v (fun v => ob (piA v) fun cs => some (mapL .p cs)) none (fun _ => none) (fun _ _ _ _ => none) (fun _ _ _ => none) (fun _ _ _ => none) none (fun _ => none) none (fun _ _ _ => none) none (fun _ _ => none) none some (fun _ => none)
noncomputable def evP (o : POp) : Fr → List AV → Objs → Option AV :=
  POp.casesOn (motive := fun _ => Fr → List AV → Objs → Option AV) o
    (fun x fr env _ => opd x fr env)
    (fun c a b fr env _ => ob (opd c fr env) fun c => ob (asB c) fun t => bf t (opd a fr env) (opd b fr env))
    (fun n x fr env objs => ob (opd x fr env) fun v => loadA objs n v)
    (fun off x fr env _ => ob (opd x fr env) fun v => ptrCases v (fun id i o => some (.ptr id i (o + off))) (fun es i o => some (.fptr es i (o + off))))
    (fun s x i fr env _ => ob (opd x fr env) fun v => ob (opd i fr env) fun i => ob (asN i) fun n => indexV s v n)
    (fun l s x i fr env _ => ob (opd x fr env) fun v => ob (opd i fr env) fun i => ob (asN i) fun n => bf (Nat.blt n l) (ptrCases v (fun id i o => some (.ptr id i (o + n * s))) (fun es i o => some (.fptr es i (o + n * s)))) none)
    (fun x i fr env _ => ob (opd x fr env) fun v => ob (asS v) fun s => ob (opd i fr env) fun i => ob (asN i) fun n => ob (nth s n) fun b => some (.p (.int .u8 (Int.ofNat b))))
    (fun k op x y fr env _ => ob (opd x fr env) fun x => ob (opd y fr env) fun y => binA k op x y)
    (fun ks op x y fr env _ => ob (opd x fr env) fun x => ob (opd y fr env) fun y => ob (asP x) fun a => ob (piA a) fun a => ob (asP y) fun b => ob (piA b) fun b => ob (eqK ks a b) fun r => eqOp op r)
    (fun x fr env _ => ob (opd x fr env) fun v => ob (asB v) fun b => pb (nt b))
    (fun x fr env _ => ob (opd x fr env) fun v => ob (asI v) fun p => some (.p (.int p.1 (subN p.1 0 p.2))))
    (fun x fr env _ => ob (opd x fr env) okPtr)
    (fun zero parts fr env _ => ob (fillParts fr env parts zero) fun cs => some (mkAgg cs))
    (fun x i fr env _ => ob (opd x fr env) fun v => ob (asTup v) fun l => nth l i)
    (fun kk zero ok m k fr env objs => ob (opd m fr env) fun m => ob (opd k fr env) fun k => ob (asP k) fun k => bf (Nat.beq (kindK k) kk) (
      mapCases m (fun id => ob (getO id objs) fun o => asMap o (fun l => ob (getK k l) fun r => some (look zero ok (Option.rec (motive := fun _ => Option AV) none (fun v => some (.p v)) r))) (fun l => ob (getK k l) fun r => some (look zero ok r))) (some (look zero ok none))) none)
    (fun k x fr env objs => ob (opd x fr env) fun v => ob (lenK k objs v) fun n => some (.p (.int .i64 (Int.ofNat n))))
    (fun a b fr env _ => ob (opd a fr env) fun a => ob (opd b fr env) fun b => ob (asI a) fun x => ob (asI b) fun y => some (.p (.int x.1 (bf (leI y.2 x.2) x.2 y.2))))
    (fun a b fr env _ => ob (opd a fr env) fun a => ob (opd b fr env) fun b => ob (asI a) fun x => ob (asI b) fun y => some (.p (.int x.1 (bf (leI x.2 y.2) x.2 y.2))))
    (fun s x lo hi fr env _ => ob (opd x fr env) fun v => ob (Nat.casesOn (motive := fun _ => Option Nat) s (ob (asS v) fun s => some (len s)) (fun _ => lenS v)) fun n => ob (bound lo 0 fr env) fun l => ob (bound hi n fr env) fun h => bf (Nat.ble l h) (bf (Nat.ble h n) (subA s l (h - l) v) none) none)
    (fun k x fr env _ => ob (opd x fr env) fun v => ob (asI v) fun p => some (wrapI k p.2))
    (fun x fr env objs => ob (opd x fr env) fun v => ob (lenS v) fun _ => ob (elemsOf objs v) fun o => Ob.casesOn (motive := fun _ => Option AV) o (fun es => ob (mapO byteOf es) fun s => some (.p (.str (mapL (fun n => Nat.mod n 256) s)))) (fun _ => none) (fun _ => none) (fun _ => none) none)
    (fun f a b fr env _ => ob (opds a fr env) fun a => ob (opds b fr env) fun b => some (.fn f a b))
    (fun t x fr env _ => ob (opd x fr env) fun v => some (.iface t v))
    (fun n off x fr env _ => ob (opd x fr env) fun v => ob (aggCells v) fun cs => mkVal n (dropN cs off))
/-- Slices whose capacity is known, as slices of which it is not: the value alone. -/
noncomputable def weak (v : AV) : Option PV :=
  AV.rec (motive_1 := fun _ => Option PV) (motive_2 := fun _ => Option (List PV)) some (some (.fz [])) (fun es => some (.fz es)) (fun _ _ _ _ => none) (fun _ _ _ => none) (fun _ _ _ => none) none (fun _ => none) none (fun _ _ _ _ _ => none) none (fun _ _ _ => none) none (fun _ r => ob r fun cs => some (.agg cs)) (fun _ _ => none)
    (some []) (fun _ _ a b => ob a fun a => ob b fun b => some (a :: b)) v
noncomputable def evN (o : NOp) : Fr → List AV → Nat → Option (AV × Option Ob) :=
  NOp.casesOn (motive := fun _ => Fr → List AV → Nat → Option (AV × Option Ob)) o
    (fun mode s zero parts fr env id => ob (buildElems fr env s zero parts) fun es => Nat.casesOn (motive := fun _ => Option (AV × Option Ob)) mode (Option.rec (motive := fun _ => Option (AV × Option Ob)) (some (.row id s 0 (len es), some (.cells es))) (fun ps => some (.lit ps, none)) (mapO (mapO weak) es))
      (fun mode => Nat.casesOn (motive := fun _ => Option (AV × Option Ob)) mode (some (.row id s 0 (len es), some (mkRow es))) (fun _ => Option.rec (motive := fun _ => Option (AV × Option Ob)) (some (.row id s 0 (len es), some (.cells es))) (fun ps => some (.lit ps, none)) (mapO (mapO pure?) es))))
    (fun zero _ _ id => some (.ptr id 0 0, some (mkRow [zero])))
    (fun x fr env id => ob (opd x fr env) fun v => bf (Nat.blt 0 (len (cellsA v))) (bf (allL isCell (cellsA v)) (some (.ptr id 0 0, some (mkRow [cellsA v]))) none) none)
    (fun _ _ id => some (.map id, some (.pmap [])))
    (fun x fr env id => ob (opd x fr env) fun v => ob (asS v) fun s => some (.p (.fz (bytes s)), none))
noncomputable def mapUpd (M : Mem) (id : Nat) (k : PV) (x : AV) : Option Mem :=
  ob (getO id M.objs) fun o => asMap o
    (fun l => Option.rec (motive := fun _ => Option Mem) (ob (putK k x (valMap l)) fun l => some (M.upd id (.map l))) (fun x => ob (putK k x l) fun l => some (M.upd id (.pmap l))) (pure? x))
    (fun l => ob (putK k x l) fun l => some (M.upd id (.map l)))
noncomputable def appendA (s : Nat) (a : AV) (e : Ob) (M : Mem) : Option (AV × Mem) :=
  AV.casesOn (motive_1 := fun _ => Option (AV × Mem)) a (fun _ => none) (some (.row M.next s 0 (sizeO e), M.new e)) (fun _ => some (.row M.next s 0 (sizeO e), M.new e)) (fun id t _ _ => bf (Nat.beq s t) (some (.row M.next s 0 (sizeO e), Mem.new ⟨M.next, setO id .dead M.objs⟩ e)) none)
    (fun _ _ _ => none) (fun _ _ _ => none) none (fun _ => none) none (fun _ _ _ => none) none (fun _ _ => none) none (fun _ => none) (fun _ => none)
noncomputable def sizedO (s : Nat) (o : Ob) : Bool := Ob.casesOn (motive := fun _ => Bool) o (fun es => sized s es) (fun es => sized s es) (fun _ => false) (fun _ => false) false
/-- Elements in the place of others. -/
noncomputable def splO (i : Nat) (bs : List (List PV)) (o : Ob) : Option Ob :=
  Ob.casesOn (motive := fun _ => Option Ob) o (fun es => bf (Nat.ble (i + len bs) (len es)) (some (.pr (app (takeN es i) (app bs (dropN es (i + len bs)))))) none)
    (fun es => bf (Nat.ble (i + len bs) (len es)) (some (.cells (app (takeN es i) (app (mapL (mapL .p) bs) (dropN es (i + len bs)))))) none) (fun _ => none) (fun _ => none) none
/-- copy from a string. -/
noncomputable def copyA (d : AV) (s : List Nat) (M : Mem) : Option (AV × Mem) :=
  AV.casesOn (motive_1 := fun _ => Option (AV × Mem)) d (fun _ => none) none (fun _ => none)
    (fun id t i n => bf (Nat.beq t 1) ((fun bs => List.casesOn (motive := fun _ => Option (AV × Mem)) bs (some (.p (.int .i64 (.ofNat 0)), M)) (fun _ _ => ob (getO id M.objs) fun o => ob (splO i bs o) fun o' => some (.p (.int .i64 (.ofNat (len bs))), M.upd id o'))) (bytes (takeN s n))) none)
    (fun _ _ _ => none) (fun _ _ _ => none) none (fun _ => none) none (fun _ _ _ => none) none (fun _ _ => none) none (fun _ => none) (fun _ => none)
noncomputable def evE (o : EOp) : Fr → List AV → Mem → Option (AV × Mem) :=
  EOp.casesOn (motive := fun _ => Fr → List AV → Mem → Option (AV × Mem)) o
    (fun n x v fr env M => ob (opd x fr env) fun x => ob (opd v fr env) fun y => bf (bf (Nat.beq (len (cellsA y)) n) (allL isCell (cellsA y)) false)
      (ptrCases x (fun id i off => ob (getO id M.objs) fun o => ob (putO i off o (cellsA y)) fun o' => some (undefA, M.upd id o')) (fun _ _ _ => none)) none)
    (fun kk m k x fr env M => ob (opd m fr env) fun m => ob (opd k fr env) fun k => ob (opd x fr env) fun x => ob (asP k) fun k => bf (Nat.beq (kindK k) kk) (mapCases m (fun id => ob (mapUpd M id k x) fun M' => some (undefA, M')) none) none)
    (fun zero l c fr env M => ob (opd l fr env) fun l => ob (opd c fr env) fun c => ob (asN l) fun l => ob (asN c) fun c => bf (Nat.beq l c) (bf (Nat.blt l 16777216) (some (.row M.next (len zero) 0 l, M.new (mkRow (List.replicate l zero)))) none) none)
    (fun s a b fr env M => ob (opd a fr env) fun a => ob (opd b fr env) fun b => ob (lenS a) fun _ => ob (elemsOf M.objs a) fun ea => ob (elemsOf M.objs b) fun eb => bf (Nat.beq (sizeO eb) 0) (some (a, M))
      (bf (sizedO s ea) (bf (sizedO s eb) (bf (Nat.blt (sizeO ea + sizeO eb) 16777216) (ob (appendO ea eb) fun e => appendA s a e M) none) none) none))
    (fun kk m k fr env M => ob (opd m fr env) fun m => ob (opd k fr env) fun k => ob (asP k) fun k => bf (Nat.beq (kindK k) kk) (mapCases m (fun id => ob (getO id M.objs) fun o => asMap o (fun l => ob (delK k l) fun l => some (undefA, M.upd id (.pmap l))) (fun l => ob (delK k l) fun l => some (undefA, M.upd id (.map l)))) none) none)
    (fun a b fr env M => ob (opd a fr env) fun a => ob (opd b fr env) fun b => ob (asS b) fun s => copyA a s M)
/-! ### References -/
noncomputable def refs (v : AV) : List Nat :=
  AV.rec (motive_1 := fun _ => List Nat) (motive_2 := fun _ => List Nat) (fun _ => []) [] (fun _ => []) (fun id _ _ _ => [id]) (fun id _ _ => [id]) (fun _ _ _ => []) [] (fun id => [id]) [] (fun _ _ _ a b => app a b) [] (fun _ _ r => r) [] (fun _ r => r) (fun _ r => r) [] (fun _ _ a b => app a b) v
noncomputable def refsL (l : List AV) : List Nat := List.rec (motive := fun _ => List Nat) [] (fun a _ ih => app (refs a) ih) l
noncomputable def refsLL (es : List (List AV)) : List Nat := List.rec (motive := fun _ => List Nat) [] (fun c _ ih => app (refsL c) ih) es
noncomputable def refsM (l : List (PV × AV)) : List Nat := List.rec (motive := fun _ => List Nat) [] (fun p _ ih => app (refs p.2) ih) l
noncomputable def refsO (o : Ob) : List Nat := Ob.casesOn (motive := fun _ => List Nat) o (fun _ => []) refsLL (fun _ => []) refsM []
noncomputable def memN (i : Nat) (l : List Nat) : Bool := List.rec (motive := fun _ => Bool) false (fun j _ ih => bf (Nat.beq i j) true ih) l
/-- The objects that numbers reach: none if the fuel does not do. -/
noncomputable def close (objs : Objs) (n : Nat) : List Nat → List Nat → Option (List Nat) :=
  Nat.rec (motive := fun _ => List Nat → List Nat → Option (List Nat)) (fun _ _ => none)
    (fun _ ih todo acc => List.casesOn (motive := fun _ => Option (List Nat)) todo (some acc) (fun i todo => bf (memN i acc) (ih todo acc)
      (Option.rec (motive := fun _ => Option (List Nat)) none (fun o => ih (app todo (refsO o)) (app acc [i])) (getO i objs)))) n
noncomputable def reach (objs : Objs) (args : List AV) : Option (List Nat) := close objs 4000 (refsL args) []
/-- Are all numbers below the next one in use? -/
noncomputable def maskO (l : Objs) : Nat := List.rec (motive := fun _ => Nat) 0 (fun p _ ih => Nat.lor ih (Nat.shiftLeft 1 p.1)) l
noncomputable def dense (M : Mem) : Bool := Nat.beq (maskO M.objs) (Nat.sub (Nat.shiftLeft 1 M.next) 1)
/-- The objects that a call may change. -/
noncomputable def touchM (M : Mem) (args : List AV) : Option (List Nat) := bf (dense M) (some (mapL Prod.fst M.objs)) (reach M.objs args)
/-! ### Regions -/
abbrev Cll := Nat → List AV → Mem → Option (Rs × Mem)
abbrev Out := Option (Ex × Fr × Mem)
mutual
def PV.beq : PV → PV → Bool
  | .bool a, .bool b => a == b
  | .int k a, .int l b => k == l && a == b
  | .str a, .str b => a == b
  | .fz a, .fz b => beqLL a b
  | .agg a, .agg b => beqL a b
  | _, _ => false
def beqL : List PV → List PV → Bool
  | [], [] => true
  | a :: x, b :: y => PV.beq a b && beqL x y
  | _, _ => false
def beqLL : List (List PV) → List (List PV) → Bool
  | [], [] => true
  | a :: x, b :: y => beqL a b && beqLL x y
  | _, _ => false
end
mutual
def AV.beq : AV → AV → Bool
  | .p a, .p b => PV.beq a b
  | .nils, .nils | .nilp, .nilp | .nilm, .nilm | .nilf, .nilf | .nili, .nili => true
  | .lit a, .lit b => beqLL a b
  | .row a b c d, .row e f g h => a == e && b == f && c == g && d == h
  | .ptr a b c, .ptr d e f => a == d && b == e && c == f
  | .fptr a b c, .fptr d e f => beqLL a d && b == e && c == f
  | .map a, .map b => a == b
  | .fn f a b, .fn g c d => f == g && beqA a c && beqA b d
  | .iface t v, .iface u w => t == u && AV.beq v w
  | .agg a, .agg b | .tup a, .tup b => beqA a b
  | _, _ => false
def beqA : List AV → List AV → Bool
  | [], [] => true
  | a :: x, b :: y => AV.beq a b && beqA x y
  | _, _ => false
end
def beqLs {α : Type} (f : α → α → Bool) : List α → List α → Bool
  | [], [] => true
  | a :: x, b :: y => f a b && beqLs f x y
  | _, _ => false
def Ob.beq : Ob → Ob → Bool
  | .pr a, .pr b => beqLL a b
  | .cells a, .cells b => beqLs beqA a b
  | .pmap a, .pmap b => beqLs (fun p q => p.1.beq q.1 && p.2.beq q.2) a b
  | .map a, .map b => beqLs (fun p q => p.1.beq q.1 && p.2.beq q.2) a b
  | .dead, .dead => true
  | _, _ => false
/-- The state within a region: the results so far (latest first), the objects that are not yet in the memory, the objects that the last effect may have changed, the memory. -/
structure RS where
  env : List AV
  pend : Objs
  tch : List Nat
  M : Mem
noncomputable def guardOk (g : Option (Opd × Bool)) (fr : Fr) (env : List AV) : Option Bool :=
  Option.rec (motive := fun _ => Option Bool) (some true) (fun g => ob (opd g.1 fr env) fun v => Option.rec (motive := fun _ => Option Bool) (ob (asTup v) fun l => bf (Nat.beq (len l) 0) (some false) none) (fun b => some (eqBb b g.2)) (asB v)) g
noncomputable def touchE (o : EOp) : Fr → List AV → List Nat :=
  EOp.casesOn (motive := fun _ => Fr → List AV → List Nat) o (fun _ x _ fr env => Option.rec (motive := fun _ => List Nat) [] (fun v => refs v) (opd x fr env)) (fun _ m _ _ fr env => Option.rec (motive := fun _ => List Nat) [] (fun v => refs v) (opd m fr env))
    (fun _ _ _ _ _ => []) (fun _ a _ fr env => Option.rec (motive := fun _ => List Nat) [] (fun v => refs v) (opd a fr env)) (fun _ m _ fr env => Option.rec (motive := fun _ => List Nat) [] (fun v => refs v) (opd m fr env)) (fun a _ fr env => Option.rec (motive := fun _ => List Nat) [] (fun v => refs v) (opd a fr env))
noncomputable def pickQ (qs : List Nat) (l : Objs) : Objs × Objs :=
  List.rec (motive := fun _ => Objs × Objs) ([], []) (fun p _ ih => bf (memN p.1 qs) (p :: ih.1, ih.2) (ih.1, p :: ih.2)) l
noncomputable def evAct (a : Ac) : Cll → Fr → Nat → RS → (RS → Out) → Out :=
  Ac.casesOn (motive := fun _ => Cll → Fr → Nat → RS → (RS → Out) → Out) a
    (fun op call fr base s K => ob (evP op fr s.env s.M.objs) fun v => K ⟨v :: s.env, s.pend, s.tch, s.M⟩)
    (fun x op r call fr base s K => ob (opd x fr s.env) fun v => Option.rec (motive := fun _ => Out) (K s) (fun id => bf (memN id s.tch) (ob (evP op fr s.env s.M.objs) fun a => ob (opd r fr s.env) fun b => bf (AV.beq a b) (K s) none) (K s)) (idOf v))
    (fun op call fr base s K => ob (evN op fr s.env s.M.next) fun r => K ⟨r.1 :: s.env, s.pend, s.tch, Option.rec (motive := fun _ => Mem) s.M (fun o => s.M.new o) r.2⟩)
    (fun q op call fr base s K => ob (evN op fr s.env (base + q)) fun r => K ⟨r.1 :: s.env, Option.rec (motive := fun _ => Objs) s.pend (fun o => (base + q, o) :: s.pend) r.2, s.tch, s.M⟩)
    (fun qs call fr base s K => (fun p => K ⟨s.env, p.2, s.tch, ⟨s.M.next, app p.1 s.M.objs⟩⟩) (pickQ (mapL (fun q => base + q) qs) s.pend))
    (fun op t call fr base s K => ob (evE op fr s.env s.M) fun r => K ⟨r.1 :: s.env, s.pend, bf t (touchE op fr s.env) [], r.2⟩)
    (fun f args t call fr base s K => ob (opd f fr s.env) fun f => ob (asFn f) fun g => ob (opds args fr s.env) fun args => (fun as => ob (bf t (touchM s.M as) (some [])) fun tch => ob (call g.1 as s.M) fun r =>
      Rs.casesOn (motive := fun _ => Mem → Out) r.1 (fun v M' => K ⟨v :: s.env, s.pend, tch, M'⟩) (fun v M' => some (.pan v, fr, M')) r.2) (app g.2.1 (app args g.2.2)))
    (fun x call fr base s K => ob (opd x fr s.env) fun v => AV.casesOn (motive_1 := fun _ => Out) v (fun _ => none) none (fun _ => none) (fun _ _ _ _ => none) (fun _ _ _ => none) (fun _ _ _ => none) none (fun _ => none) none (fun _ _ _ => none) none (fun t v => some (.pan (.iface t v), fr, s.M)) none (fun _ => none) (fun _ => none))
    (fun _ _ _ _ _ => none)
noncomputable def evIts (l : List It) : Cll → Fr → Nat → RS → (RS → Out) → Out :=
  List.rec (motive := fun _ => Cll → Fr → Nat → RS → (RS → Out) → Out) (fun _ _ _ s K => K s)
    (fun it _ ih call fr base s K => ob (guardOk it.guard fr s.env) fun g => bf g (evAct it.act call fr base s (fun s => ih call fr base s K)) (ih call fr base ⟨undefA :: s.env, s.pend, s.tch, s.M⟩ K)) l
noncomputable def setSlots (env : List AV) (l : List (Nat × Nat)) : Fr → Option Fr :=
  List.rec (motive := fun _ => Fr → Option Fr) some (fun p _ ih fr => ob (nth env p.2) fun v => ih (setN v fr p.1)) l
noncomputable def finish (wb : List (Nat × Nat)) (fr : Fr) (s : RS) : Out := ob (setSlots s.env wb fr) fun fr' => some (.normal, fr', s.M)
abbrev Rn := Fr → Mem → Out
noncomputable def evReg (its : List It) (wb : List (Nat × Nat)) (call : Cll) : Rn := fun fr M => evIts its call fr 0 ⟨[], [], [], M⟩ (finish wb fr)
def Ex.beq : Ex → Ex → Bool
  | .normal, .normal => true
  | .exit a, .exit b => a == b
  | .ret, .ret => true
  | .pan a, .pan b => a.beq b
  | _, _ => false
def beqR (r s : Ex × Fr × Mem) : Bool := r.1.beq s.1 && beqA r.2.1 s.2.1 && r.2.2.next == s.2.2.next && beqLs (fun p q => p.1 == q.1 && p.2.beq q.2) r.2.2.objs s.2.2.objs
noncomputable def evDT (t : DT) : Cll → Fr → Nat → RS → Out :=
  DT.rec (motive_1 := fun _ => Cll → Fr → Nat → RS → Out) (motive_2 := fun _ => Cll → Fr → Nat → RS → Out)
    (fun its wb kids ih call fr base s => evIts its call fr base s (List.casesOn (motive := fun _ => RS → Out) kids (finish wb fr) (fun _ _ => ih call fr base)))
    (fun _ _ _ _ => none)
    (fun _ l hd tl call fr base s => List.casesOn (motive := fun _ => Out) l (hd call fr base s) (fun _ _ => ob (hd call fr base s) fun r => ob (tl call fr base s) fun r' => bf (beqR r r') (some r) none)) t
noncomputable def evDReg (r : Nat) (t : DT) (call : Cll) : Rn := fun fr M => evDT t call fr M.next ⟨[], [], [], ⟨M.next + r, M.objs⟩⟩
noncomputable def exCases {α : Type} (e : Ex) (n : α) (x : Nat → α) (o : α) : α := Ex.casesOn (motive := fun _ => α → (Nat → α) → α → α) e (fun n _ _ => n) (fun i _ x _ => x i) (fun _ _ o => o) (fun _ _ _ o => o) n x o
noncomputable def loopN (n : Nat) : Rn → Rn :=
  Nat.rec (motive := fun _ => Rn → Rn) (fun _ _ _ => none) (fun _ ih body fr M => ob (body fr M) fun r => exCases r.1 (ih body r.2.1 r.2.2) (fun _ => some r) (some r)) n
/-- Slots that nobody reads any more. -/
noncomputable def wipe (ws : List Nat) (fr : Fr) : Fr := List.rec (motive := fun _ => Fr) fr (fun s _ ih => setN undefA ih s) ws
noncomputable def evCode (c : CCode) : Cll → Nat → Rn :=
  CCode.rec (motive := fun _ => Cll → Nat → Rn)
    (fun _ _ fr M => some (.normal, fr, M))
    (fun its wb call _ => evReg its wb call)
    (fun r t call _ => evDReg r t call)
    (fun s ws _ b call n fr M => ob (b call n (setN (.p (.bool true)) fr s) M) fun r => ob (b call n (setN (.p (.bool false)) fr s) M) fun r' => (fun x => bf (beqR x (r'.1, wipe ws r'.2.1, r'.2.2)) (some x) none) (r.1, wipe ws r.2.1, r.2.2))
    (fun _ _ a b call n fr M => ob (a call n fr M) fun r => exCases r.1 (b call n r.2.1 r.2.2) (fun _ => some r) (some r))
    (fun c _ _ a b call n fr M => ob (nth fr c) fun v => ob (asB v) fun t => bf t (a call n fr M) (b call n fr M))
    (fun id _ b call n fr M => ob (b call n fr M) fun r => exCases r.1 (some r) (fun i => bf (Nat.beq i id) (some (.normal, r.2)) (some r)) (some r))
    (fun _ b call n => loopN n (b call n))
    (fun i _ _ fr M => some (.exit i, fr, M))
    (fun _ _ fr M => some (.ret, fr, M))
    (fun _ _ _ _ => none) c
noncomputable def evRes (l : List RV) (fr : Fr) (objs : Objs) : Option (List AV) :=
  mapO (fun r => RV.casesOn (motive := fun _ => Option AV) r (fun i => ob (nth fr i) fun v => some v) (fun i n => ob (nth fr i) fun v => loadA objs n v)) l
/-! ### Returns: what a call has made is frozen and dropped -/
noncomputable def toPV (m : Nat) (objs : Objs) (n : Nat) : AV → Option PV :=
  Nat.rec (motive := fun _ => AV → Option PV) (fun _ => none) (fun _ ih v =>
    AV.rec (motive_1 := fun _ => Option PV) (motive_2 := fun _ => Option (List PV)) some (some (.fz [])) (fun es => some (.fz es))
      (fun id _ i n => bf (Nat.ble m id) (ob (getO id objs) fun o => ob (subO o i n) fun o => Ob.casesOn (motive := fun _ => Option PV) o (fun es => some (.fz es)) (fun es => ob (mapO (mapO ih) es) fun es => some (.fz es)) (fun _ => none) (fun _ => none) none) none)
      (fun _ _ _ => none) (fun _ _ _ => none) none (fun _ => none) none (fun _ _ _ _ _ => none) none (fun _ _ _ => none) none (fun _ r => ob r fun cs => some (.agg cs)) (fun _ _ => none)
      (some []) (fun _ _ a b => ob a fun a => ob b fun b => some (a :: b)) v) n
noncomputable def dropV (k : Nat) (objs : Objs) (v : AV) : Option AV :=
  AV.rec (motive_1 := fun _ => Option AV) (motive_2 := fun _ => Option (List AV)) (fun v => some (.p v)) (some (.p (.fz []))) (fun es => some (.p (.fz es)))
    (fun id s i n => bf (Nat.blt id k) (some (.row id s i n)) (ob (toPV k objs 12 (.row id s i n)) fun v => some (.p v)))
    (fun id i o => bf (Nat.blt id k) (some (.ptr id i o)) none) (fun es i o => some (.fptr es i o)) (some .nilp) (fun id => bf (Nat.blt id k) (some (.map id)) none) (some .nilm)
    (fun f _ _ a b => ob a fun a => ob b fun b => some (.fn f a b)) (some .nilf) (fun t _ r => ob r fun v => some (.iface t v)) (some .nili) (fun _ r => ob r fun cs => some (mkAgg cs)) (fun _ r => ob r fun cs => some (.tup cs))
    (some []) (fun _ _ a b => ob a fun a => ob b fun b => some (a :: b)) v
noncomputable def keepK (k : Nat) (l : Objs) : Objs := List.rec (motive := fun _ => Objs) [] (fun p _ ih => bf (Nat.blt p.1 k) (p :: ih) ih) l
noncomputable def oldOk (k : Nat) (l : Objs) : Bool := allL (fun p => bf (Nat.blt p.1 k) (allL (fun r => Nat.blt r k) (refsO p.2)) true) l
noncomputable def posN (i : Nat) (l : List Nat) : Nat := List.rec (motive := fun _ => Nat) 0 (fun j _ ih => bf (Nat.beq i j) 0 (Nat.succ ih)) l
noncomputable def ren (ρ : Nat → Nat) (v : AV) : AV :=
  AV.rec (motive_1 := fun _ => AV) (motive_2 := fun _ => List AV) .p .nils .lit (fun id s i n => .row (ρ id) s i n) (fun id i o => .ptr (ρ id) i o) .fptr .nilp (fun id => .map (ρ id)) .nilm (fun f _ _ a b => .fn f a b) .nilf (fun t _ r => .iface t r) .nili (fun _ r => .agg r) (fun _ r => .tup r) [] (fun _ _ a b => a :: b) v
noncomputable def renO (ρ : Nat → Nat) (o : Ob) : Ob :=
  Ob.casesOn (motive := fun _ => Ob → Ob) o (fun _ o => o) (fun es _ => .cells (mapL (mapL (ren ρ)) es)) (fun _ o => o) (fun l _ => .map (mapL (fun p => (p.1, ren ρ p.2)) l)) (fun o => o) o
noncomputable def subM (objs : Objs) (ρ : Nat → Nat) (σ : List Nat) : Objs := mapL (fun i => (ρ i, Option.rec (motive := fun _ => Ob) .dead (renO ρ) (getO i objs))) σ
/-- Objects from k on that nobody reaches are dropped; the others are numbered anew. -/
noncomputable def upN (n : Nat) : List Nat := Nat.rec (motive := fun _ => List Nat) [] (fun n ih => app ih [n]) n
noncomputable def refsOld (k : Nat) (l : Objs) : List Nat := List.rec (motive := fun _ => List Nat) [] (fun p _ ih => bf (Nat.blt p.1 k) (app (refsO p.2) ih) ih) l
noncomputable def gc (k : Nat) (v : AV) (M : Mem) : Option (AV × Mem) :=
  ob (close M.objs 4000 (app (refs v) (refsOld k M.objs)) (upN k)) fun σ => (fun ρ => some (ren ρ v, ⟨len σ, subM M.objs ρ σ⟩)) (fun i => posN i σ)
noncomputable def leave (frz : Bool) (k : Nat) (v : AV) (M : Mem) : Option (AV × Mem) :=
  bf (bf frz (oldOk k M.objs) false) (Option.rec (motive := fun _ => Option (AV × Mem)) (gc k v M) (fun v' => some (v', ⟨k, keepK k M.objs⟩)) (dropV k M.objs v)) (gc k v M)
noncomputable def resV (vs : List AV) : AV := List.casesOn (motive := fun _ => AV) vs (.tup []) (fun v l => List.casesOn (motive := fun _ => AV) l v (fun _ _ => .tup vs))
noncomputable def evFun (call : Cll) (n : Nat) (frz : Bool) (f : CFunc) (args : List AV) (M : Mem) : Option (Rs × Mem) :=
  bf (Nat.ble (len args) f.np) (ob (evCode f.body call n (app args (List.replicate (f.nslots - len args) undefA)) M) fun r =>
    Ex.casesOn (motive := fun _ => Option (Rs × Mem)) r.1
      (ob (evRes f.results r.2.1 r.2.2.objs) fun vs => ob (leave frz M.next (resV vs) r.2.2) fun x => some (.ret x.1, x.2))
      (fun _ => none)
      (ob (evRes f.results r.2.1 r.2.2.objs) fun vs => ob (leave frz M.next (resV vs) r.2.2) fun x => some (.ret x.1, x.2))
      (fun v => ob (leave true M.next v r.2.2) fun x => some (.pan x.1, x.2))) none
/-! ### Calls: in a memory of their own, numbered anew -/
noncomputable def backM (β : Nat → Nat) (σ : List Nat) (l : Objs) (objs : Objs) : Objs :=
  app (mapL (fun p => (β p.1, renO β p.2)) l) (List.rec (motive := fun _ => Objs) [] (fun p _ ih => bf (memN p.1 σ) ih (p :: ih)) objs)
noncomputable def renR (β : Nat → Nat) (r : Rs) : Rs := Rs.casesOn (motive := fun _ => Rs) r (fun v => .ret (ren β v)) (fun v => .pan (ren β v))
noncomputable def iso (run : List AV → Mem → Option (Rs × Mem)) (args : List AV) (M : Mem) : Option (Rs × Mem) :=
  ob (reach M.objs args) fun σ => (fun k ρ => ob (run (mapL (ren ρ) args) ⟨k, subM M.objs ρ σ⟩) fun r =>
    (fun β => some (renR β r.1, ⟨M.next + (r.2.next - k), backM β σ r.2.objs M.objs⟩)) (fun j => bf (Nat.blt j k) (Option.rec (motive := fun _ => Nat) 0 (fun i => i) (nth σ j)) (M.next + (j - k)))) (len σ) (fun i => posN i σ)
noncomputable def scalar (v : PV) : Bool := PV.casesOn (motive_1 := fun _ => Bool) v (fun _ => true) (fun _ _ => true) (fun _ => true) (fun _ => false) (fun cs => allL (fun c => PV.casesOn (motive_1 := fun _ => Bool) c (fun _ => true) (fun _ _ => true) (fun _ => true) (fun _ => false) (fun _ => false)) cs)
noncomputable def scalarA (v : AV) : Bool := Option.rec (motive := fun _ => Bool) (Option.rec (motive := fun _ => Bool) false (fun l => allL (fun v => Option.rec (motive := fun _ => Bool) false scalar (asP v)) l) (asTup v)) scalar (asP v)
/-- A call whose arguments are made pure first: its results are scalars. -/
noncomputable def pureCall (run : List AV → Mem → Option (Rs × Mem)) (args : List AV) (M : Mem) : Option (Rs × Mem) :=
  ob (mapO (toPV 0 M.objs 12) args) fun ps => ob (run (mapL .p ps) ⟨0, []⟩) fun r => Rs.casesOn (motive := fun _ => Option (Rs × Mem)) r.1 (fun v => bf (scalarA v) (some (.ret v, M)) none) (fun _ => none)
noncomputable def weakA (v : AV) : AV := Option.rec (motive := fun _ => AV) v .p (weak v)
/-- How a function is called: 0: the arguments' values alone; 1: as they are; 2: rows are read as values, too (the results are scalars); 3: in the memory as it is, if all numbers are in use. -/
noncomputable def callP (how : Nat) (run : List AV → Mem → Option (Rs × Mem)) (args : List AV) (M : Mem) : Option (Rs × Mem) :=
  Nat.casesOn (motive := fun _ => Option (Rs × Mem)) how (iso run (mapL weakA args) M) (fun n => Nat.casesOn (motive := fun _ => Option (Rs × Mem)) n (iso run args M) (fun n => Nat.casesOn (motive := fun _ => Option (Rs × Mem)) n (pureCall run args M) (fun _ => bf (dense M) (run (mapL weakA args) M) (iso run (mapL weakA args) M))))
end Go.Ab
namespace Go.Ab
set_option maxRecDepth 8000
set_option linter.unusedSimpArgs false
set_option linter.unusedVariables false
section
variable (P : Program) (L : Nat)
def loadN (t : TypeId) : Option (Option Nat) := match P.underlying t with
  | some (.struct _) | some (.array ..) => some (some (P.cellsOf t))
  | some _ => some none
  | none => none
def cellsC : AV → List AV
  | .p (.agg cs) => cs.map .p
  | .agg cs => cs
  | v => [v]
def zeroA (t : TypeId) : Option (List AV) := match P.info? t with
  | some i => match i.zero with
    | some z => match ofValue 10 z with
      | some v => if (cellsC v).all cellC && decide ((cellsC v).length = P.cellsOf t) then some (cellsC v) else none
      | none => none
    | none => none
  | none => none
/-- The zero value of a type. -/
def zeroV (t : TypeId) : Option AV := match P.info? t with
  | some i => match i.zero with
    | some z => ofValue 10 z
    | none => none
  | none => none
def elemT (t : TypeId) : Option TypeId := match P.underlying t with
  | some (.slice e) => some e
  | _ => none
/-- offset, cells, one cell or a struct -/
def fieldOf (t : TypeId) (i : Nat) : Option (Nat × Nat × Option Nat) := match P.underlying t with
  | some (.struct fs) => match fs[i]? with
    | some f => if P.cellsOf f.type = 0 then none else match loadN P f.type with
      | some n => some (f.offset, P.cellsOf f.type, n)
      | none => none
    | none => none
  | _ => none
abbrev Rho := Nat → Option Opd
def opdC (ρ : Rho) : Operand → Option Opd
  | .tmp t => ρ t
  | .const v => match ofValue 10 v with
    | some a => some (.const a)
    | none => none
  | .func f => some (.const (.fn f [] []))
  | .global _ => none
def optC (ρ : Rho) : Option Operand → Option (Option Opd)
  | none => some none
  | some x => match opdC ρ x with
    | some o => some (some o)
    | none => none
def with1 {α : Type} (ρ : Rho) (x : Operand) (f : Opd → α) : Option α := match opdC ρ x with
  | some x => some (f x)
  | none => none
def with2 {α : Type} (ρ : Rho) (x y : Operand) (f : Opd → Opd → α) : Option α := match opdC ρ x, opdC ρ y with
  | some x, some y => some (f x y)
  | _, _ => none
def with3 {α : Type} (ρ : Rho) (x y z : Operand) (f : Opd → Opd → Opd → α) : Option α := match opdC ρ x, opdC ρ y, opdC ρ z with
  | some x, some y, some z => some (f x y z)
  | _, _, _ => none
def partC (ρ : Rho) (place : Nat → Option (Nat × Nat)) (p : Nat × Operand) : Option (Nat × Nat × Opd) := match place p.1, opdC ρ p.2 with
  | some (o, n), some x => some (o, n, x)
  | _, _ => none
/-- Where the parts of a struct or an array lie. -/
def placesC (t : TypeId) : Option (Nat → Option (Nat × Nat)) := match P.underlying t with
  | some (.array _ e) => match P.info? e with
    | some i => some fun k => some (k * i.size, i.size)
    | none => none
  | some (.struct fs) => match fs.toList.mapM (fun f => (P.info? f.type).map fun i => (f.offset, i.size)) with
    | some l => some fun k => l[k]?
    | none => none
  | _ => none
def findPart (i : Nat) : List (Nat × Operand) → Option Operand
  | [] => none
  | p :: l => if p.1 = i then some p.2 else findPart i l
/-- parts of a slice's literal: in the order of their numbers, from i on, n of them -/
def elemsC (ρ : Rho) (l : List (Nat × Operand)) (i : Nat) : Nat → Option (List (Option Opd))
  | 0 => some []
  | n + 1 => match optC ρ (findPart i l), elemsC ρ l (i + 1) n with
    | some x, some xs => some (x :: xs)
    | _, _ => none
def upTo (n : Nat) : List (Nat × Operand) → Bool
  | [] => true
  | p :: l => decide (p.1 < n) && l.all (fun q => p.1 != q.1) && upTo n l
/-- The kinds of a struct's fields, all of which are scalars. -/
def kindsF (i : Nat) : List Field → Option (List Nat)
  | [] => some []
  | f :: l => if f.offset == i && f.name != "_" then match P.underlying f.type, kindsF (i + 1) l with
      | some .bool, some ks => some (0 :: ks)
      | some (.int _), some ks => some (1 :: ks)
      | some .string, some ks => some (2 :: ks)
      | _, _ => none
    else none
/-- The kind of a map's keys: numbers, strings, structs of n numbers (4 + n). -/
def keyK (t : TypeId) : Option Nat := match P.underlying t with
  | some (.map kt _) => match P.underlying kt with
    | some .string => some 2
    | some (.int _) => some 1
    | some (.struct fs) => if P.stoodInHeld kt then none else match kindsF P 0 fs.toList with
      | some ks => if ks.all (· == 1) then some (4 + ks.length) else none
      | none => none
    | _ => none
  | _ => none
def pOp (ρ : Rho) : Op → Option POp
  | .move x | .assign x => with1 ρ x .mv
  | .pick c a b => with3 ρ c a b .pick
  | .load t x => match loadN P t with
    | some n => with1 ρ x (.load n)
    | none => none
  | .fieldAddr t x i => match fieldOf P t i with
    | some (o, _, _) => with1 ρ x (.fieldA o)
    | none => none
  | .indexAddr t x i => match P.underlying t with
    | some (.slice e) => if P.cellsOf e = 0 then none else with2 ρ x i (.indexA (P.cellsOf e))
    | some (.array n e) => if n ≤ 1 ∨ (P.info? e).isNone then none else with2 ρ x i (.indexAr n (P.cellsOf e))
    | _ => none
  | .index t x i => match P.underlying t with
    | some .string => with2 ρ x i .index
    | _ => none
  | .binOp op t x y _ => match P.underlying t with
    | some (.int _) | some .string => with2 ρ x y (.bin 0 op)
    | some .bool => with2 ρ x y (.bin 1 op)
    | some (.struct fs) => if P.stoodInHeld t || P.eqGuardType P.depth t then none else match kindsF P 0 fs.toList with
      | some ks => with2 ρ x y (.eqT ks op)
      | none => none
    | some (.interface ms) => if ms.isEmpty then with2 ρ x y (.bin 2 op) else none
    | some (.pointer _) => with2 ρ x y (.bin 3 op)
    | _ => none
  | .unOp .not _ x => with1 ρ x .not
  | .unOp .neg _ x => with1 ρ x .neg
  | .nilCheck x => with1 ρ x .nilCheck
  | .build t ps => match zeroA P t, placesC P t with
    | some z, some place => match mapC (partC ρ place) ps.toList with
      | some parts => some (.build z parts)
      | none => none
    | _, _ => none
  | .extract x i => with1 ρ x fun x => .extract x i
  | .lookup t m k ok => match P.underlying t with
    | some (.map _ e) => match keyK P t, zeroV P e with
      | some kk, some z => with2 ρ m k (.lookup kk z ok)
      | _, _ => none
    | _ => none
  | .slice t x lo hi none => match P.underlying t with
    | some .string => match opdC ρ x, optC ρ lo, optC ρ hi with
      | some x, some lo, some hi => some (.slice 0 x lo hi)
      | _, _, _ => none
    | some (.slice e) => if P.cellsOf e = 0 then none else match opdC ρ x, optC ρ lo, optC ρ hi with
      | some x, some lo, some hi => some (.slice (P.cellsOf e) x lo hi)
      | _, _, _ => none
    | _ => none
  | .convert s d x => match P.underlying s, P.underlying d with
    | some (.int _), some (.int k) => with1 ρ x (.conv k)
    | some (.slice e), some .string => match P.underlying e with
      | some (.int .u8) => with1 ρ x .b2s
      | _ => none
    | _, _ => none
  | .makeFunc (.func f) a b => match mapC (opdC ρ) a.toList, mapC (opdC ρ) b.toList with
    | some a, some b => some (.mkfn f a b)
    | _, _ => none
  | .makeInterface t x => match P.underlying t with
    | some (.interface _) | none => none
    | _ => with1 ρ x (.mkiface t)
  | .field t x i => match fieldOf P t i with
    | some (o, _, n) => with1 ρ x (.field n o)
    | none => none
  | .call { callee := .builtin b, args, argTypes } => match b, args.toList with
    | .len, [x] => match (argTypes[0]?).bind P.underlying with
      | some .string => with1 ρ x (.len 0)
      | some (.slice _) => with1 ρ x (.len 1)
      | some (.map ..) => with1 ρ x (.len 2)
      | _ => none
    | .max, [x, y] => with2 ρ x y .max
    | .min, [x, y] => with2 ρ x y .min
    | _, _ => none
  | _ => none
def nOp (ρ : Rho) : Op → Option NOp
  | .buildSlice t n ps => match elemT P t with
    | some e => match zeroA P e, elemsC ρ ps.toList 0 n with
      | some z, some parts => if upTo n ps.toList && decide (n * P.cellsOf e ≤ 2 ^ 24) && decide (0 < P.cellsOf e) && decide (z.length = P.cellsOf e) then some (.buildSlice L (P.cellsOf e) z parts) else none
      | _, _ => none
    | none => none
  | .alloc t => match zeroA P t with
    | some z => if z.length = 0 then none else some (.alloc z)
    | none => none
  | .box _ x => with1 ρ x .box
  | .makeMap _ none => some .mkmap
  | .convert s d x => match P.underlying s, P.underlying d with
    | some .string, some (.slice e) => match P.underlying e with
      | some (.int .u8) => with1 ρ x .s2b
      | _ => none
    | _, _ => none
  | _ => none
def eOp (ρ : Rho) : Op → Option EOp
  | .store t x v => if P.cellsOf t = 0 then none else with2 ρ x v (.store (P.cellsOf t))
  | .insert t m k v | .mapUpdate t m k v => match keyK P t with
    | some kk => with3 ρ m k v (.mapSet kk)
    | none => none
  | .makeSlice t l c => match elemT P t with
    | some e => match zeroA P e with
      | some z => if z.length = 0 ∨ z.length ≠ P.cellsOf e ∨ P.bytesOf e > 2 ^ 20 then none else with2 ρ l c (.mkslice z)
      | none => none
    | none => none
  | .call { callee := .builtin b, args, argTypes } => match b, args.toList with
    | .append, [x, y] => match argTypes.toList with
      | [t, u] => match elemT P t, P.underlying u with
        | some e, some (.slice _) | some e, some .string => if P.cellsOf e = 0 ∨ P.bytesOf e > 2 ^ 20 ∨ (zeroA P e).isNone then none else with2 ρ x y (.append (P.cellsOf e))
        | _, _ => none
      | _ => none
    | .delete, [x, y] => match argTypes[0]? with
      | some t => match keyK P t with
        | some kk => with2 ρ x y (.delete kk)
        | none => none
      | none => none
    | .copy, [x, y] => match argTypes.toList with
      | [t, u] => match elemT P t, P.underlying u with
        | some e, some .string => if P.cellsOf e = 1 then with2 ρ x y .copy else none
        | _, _ => none
      | _ => none
    | _, _ => none
  | _ => none
def acOf (ρ : Rho) (o : Op) (t : Bool) (q : Option Nat) : Ac := match pOp P ρ o with
  | some p => .p p
  | none => match nOp P L ρ o with
    | some n => match q with
      | some q => .nw q n
      | none => .n n
    | none => match eOp P ρ o with
      | some e => .e e t
      | none => match o with
        | .call { callee := .value f, args, .. } => match opdC ρ f, mapC (opdC ρ) args.toList with
          | some f, some args => .call f args t
          | _, _ => .bad
        | .panic x => match opdC ρ x with
          | some x => .panic x
          | none => .bad
        | _ => .bad
/-! ### Regions -/
def dstOf (ops : List Oper) (j : Nat) : Option Nat := match ops[j]? with
  | some o => o.dst
  | none => none
/-- The place, in the results, of the operation that wrote a slot. -/
def wr (ops : List Oper) : List Nat → Nat → Option Nat
  | [], _ => none
  | j :: l, t => if dstOf ops j = some t then some 0 else match wr ops l t with
    | some d => some (d + 1)
    | none => none
def slotO : List Nat → Nat → Option Nat
  | [], _ => none
  | s :: l, t => if s = t then some 0 else match slotO l t with
    | some d => some (d + 1)
    | none => none
def rho (ops : List Oper) (slots : List Nat) (ord : List Nat) (t : Nat) : Option Opd := match wr ops ord t with
  | some d => some (.res d)
  | none => match slotO slots t with
    | some i => some (.old i)
    | none => none
def idxN (j : Nat) : List Nat → Option Nat
  | [] => none
  | i :: l => if i = j then some 0 else match idxN j l with
    | some d => some (d + 1)
    | none => none
def guardC (ops : List Oper) (ord : List Nat) : Option (Nat × Bool) → Option (Option (Opd × Bool))
  | none => some none
  | some (j, w) => match dstOf ops j with
    | some t => match wr ops ord t with
      | some d => some (some (.res d, w))
      | none => none
    | none => none
def badIt : It := ⟨.bad, none⟩
def itemC (ops : List Oper) (slots : List Nat) (ord : List Nat) (i : Nat) (t : Bool) (q : Option Nat) : It := match ops[i]? with
  | some o => match guardC ops ord o.guard with
    | some g => ⟨acOf P L (rho ops slots ord) o.op t q, g⟩
    | none => badIt
  | none => badIt
def wbC (ops : List Oper) (ord : List Nat) : List Nat → Nat → List (Nat × Nat)
  | [], _ => []
  | t :: l, s => match wr ops ord t with
    | some d => (s, d) :: wbC ops ord l (s + 1)
    | none => wbC ops ord l (s + 1)
/-- A region in the order of the text: n operations from number i on. -/
def regC (ops : List Oper) (slots : List Nat) : Nat → Nat → List Nat → List It
  | 0, _, _ => []
  | n + 1, i, ord => itemC P L ops slots ord i false none :: regC ops slots n (i + 1) (i :: ord)
def downFrom : Nat → List Nat
  | 0 => []
  | n + 1 => n :: downFrom n
def isEffO : Op → Bool
  | .store .. | .mapUpdate .. | .insert .. | .panic _ | .makeSlice .. => true
  | .call { callee := .builtin .append, .. } | .call { callee := .builtin .delete, .. } | .call { callee := .builtin .copy, .. } => true
  | .call { callee := .value _, .. } => true
  | _ => false
def isNewO : Op → Bool
  | .alloc _ | .box .. | .makeMap .. | .buildSlice .. => true
  | .convert s d _ => match P.underlying s with
    | some .string => true
    | _ => false
  | _ => false
def readOf : Op → Option Operand
  | .load _ x | .lookup _ x _ _ => some x
  | .call { callee := .builtin .len, args, .. } => args[0]?
  | .convert s _ x => match P.underlying s with
    | some (.slice _) => some x
    | _ => none
  | _ => none
def effAt (ops : List Oper) (i : Nat) : Bool := match ops[i]? with
  | some o => isEffO o.op
  | none => false
def newAt (ops : List Oper) (i : Nat) : Bool := match ops[i]? with
  | some o => isNewO P o.op
  | none => false
/-- All that stand before an operation, by the edges that bind; for all operations in turn. -/
def ancs : List Oper → List (List Nat) → List (List Nat)
  | [], acc => acc
  | o :: l, acc => ancs l (acc ++ [(o.after.toList.filter (fun e => Region.binds .any e)).flatMap fun e => e.on :: acc.getD e.on []])
def ancAt (anc : List (List Nat)) (i : Nat) : List Nat := anc.getD i []
def numN (ops : List Oper) (i : Nat) : Nat := ((List.range i).filter (newAt P ops)).length
def shiftO (s : Nat) : Opd → Opd
  | .res d => .res (d + s)
  | x => x
/-- What may be done behind the effects E, and has not been done. -/
def enabled (ops : List Oper) (anc : List (List Nat)) (E ord : List Nat) : List Nat :=
  (List.range ops.length).filter fun i => !effAt ops i && !ord.contains i && (ancAt anc i).all fun j => !effAt ops j || E.contains j
/-- The operation that writes a slot. -/
def wrOne (ops : List Oper) (t : Nat) : Nat → Option Nat
  | 0 => none
  | n + 1 => if dstOf ops n = some t then some n else wrOne ops t n
def oldO (slots : List Nat) (t : Nat) : Option Opd := match slotO slots t with
  | some i => some (.old i)
  | none => none
/-- What an operation reads in a slot: what one that stands before it wrote, or what was there ahead of the region. -/
def rhoD (ops : List Oper) (slots : List Nat) (anc : List (List Nat)) (ord : List Nat) (i t : Nat) : Option Opd := match wrOne ops t ops.length with
  | some k => if (ancAt anc i).contains k then (match idxN k ord with
      | some d => some (.res d)
      | none => none) else if (ancAt anc k).contains i then oldO slots t else none
  | none => oldO slots t
def guardD (ops : List Oper) (anc : List (List Nat)) (ord : List Nat) (i : Nat) : Option (Nat × Bool) → Option (Option (Opd × Bool))
  | none => some none
  | some (j, w) => if (ancAt anc i).contains j && (dstOf ops j).isSome then (match idxN j ord with
      | some d => some (some (.res d, w))
      | none => none) else none
def itemD (ops : List Oper) (slots : List Nat) (anc : List (List Nat)) (ord : List Nat) (i : Nat) (t : Bool) (q : Option Nat) : It := match ops[i]? with
  | some o => match guardD ops anc ord i o.guard with
    | some g => ⟨acOf P L (rhoD ops slots anc ord i) o.op t q, g⟩
    | none => badIt
  | none => badIt
def freeIts (ops : List Oper) (slots : List Nat) (anc : List (List Nat)) : List Nat → List Nat → List It
  | [], _ => []
  | i :: l, ord => itemD P L ops slots anc ord i false (some (numN P ops i)) :: freeIts ops slots anc l (i :: ord)
/-- The reads that are looked at again behind the effects 'done' (the last one first). -/
def recheck (ops : List Oper) (slots : List Nat) (anc : List (List Nat)) (done ord : List Nat) : List Nat → List It
  | [] => []
  | j :: l => match ops[j]? with
    | some o => match readOf P o.op with
      | some x => if done.any fun e => e == j || (ancAt anc e).contains j then recheck ops slots anc done ord l
        else (match opdC (rhoD ops slots anc ord j) x, pOp P (rhoD ops slots anc ord j) o.op, idxN j ord with
          | some y, some p, some d => ⟨.chk y p (.res d), none⟩
          | _, _, _ => badIt) :: recheck ops slots anc done ord l
      | none => recheck ops slots anc done ord l
    | none => recheck ops slots anc done ord l
def readyE (ops : List Oper) (anc : List (List Nat)) (E : List Nat) : List Nat :=
  (List.range ops.length).filter fun i => effAt ops i && !E.contains i && (ancAt anc i).all fun j => !effAt ops j || E.contains j
def newsOf (ops : List Oper) (l : List Nat) : List Nat := (l.filter (newAt P ops)).map (numN P ops)
def mkDT (ops : List Oper) (slots : List Nat) (anc : List (List Nat)) : Nat → List Nat → List Nat → List It → DT
  | 0, _, _, _ => .node [badIt] [] []
  | n + 1, E, ord, pre =>
    let en := enabled ops anc E ord
    let its := pre ++ freeIts P L ops slots anc en ord
    let ord1 := en.reverse ++ ord
    match readyE ops anc E with
    | [] => .node (its ++ [⟨.fl (List.range ops.length), none⟩]) (wbC ops ord1 slots 0) []
    | r => .node its [] (r.map fun e =>
      let ord2 := e :: ord1
      let re := recheck P ops slots anc (e :: E) ord2 ord2
      mkDT ops slots anc n (e :: E) ord2 (⟨.fl (newsOf P ops (ancAt anc e)), none⟩ :: itemD P L ops slots anc ord1 e (!re.isEmpty) none :: re))
/-- What the order of a region must bear: edges go back; each slot is written once. -/
def drawOk (ops : List Oper) : Bool :=
  (List.range ops.length).all fun i => match ops[i]? with
  | none => true
  | some o => (match o.op with | .select .. => false | _ => true) && (o.after.toList.all fun e => !Region.binds .any e || decide (e.on < i)) &&
    (List.range ops.length).all fun j => i == j || o.dst == none || o.dst != dstOf ops j
def regCC (slots : List Nat) (ops : List Oper) (draw : Bool) : CCode :=
  if draw then
      let anc := ancs ops []
      if drawOk ops then .dreg ((List.range ops.length).filter (newAt P ops)).length (mkDT P L ops slots anc ops.length [] [] []) else .bad
  else .reg (regC P L ops slots ops.length 0 []) (wbC ops (downFrom ops.length) slots 0)
def cCode (slots : List Nat) : Code → CCode
  | .skip => .skip
  | .region _ ops d => regCC P L slots ops.toList d
  | .seq a b => .seq (cCode slots a) (cCode slots b)
  | .cond (.tmp t) a b => match slotO slots t with
    | some i => .cond i (cCode slots a) (cCode slots b)
    | none => .bad
  | .block i b => .block i (cCode slots b)
  | .loop b => .loop (cCode slots b)
  | .exit i => .exit i
  | .ret => .ret
  | _ => .bad
/-- The slots that are read behind the region in which they are written. -/
def oldsOf : List Oper → List (Option Nat) → List Nat
  | [], _ => []
  | o :: l, done => (o.op.operands.toList.filterMap fun | .tmp t => (if done.contains (some t) then none else some t) | _ => none) ++ oldsOf l (o.dst :: done)
def olds : Code → List Nat
  | .region _ ops _ => oldsOf ops.toList []
  | .seq a b => olds a ++ olds b
  | .cond (.tmp t) a b => t :: (olds a ++ olds b)
  | .block _ b | .loop b => olds b
  | _ => []
def addN (t : Nat) (l : List Nat) : List Nat := if l.contains t then l else l ++ [t]
def rvC (slots : List Nat) : ResultVar → Option RV
  | .tmp t => match slotO slots t with
    | some i => some (.slot i)
    | none => none
  | .cell t ty => match slotO slots t with
    | some i => match loadN P ty with
      | some n => some (.cell i n)
      | none => none
    | none => none
def dstsOk (n : Nat) : Code → Bool
  | .region _ ops _ => ops.toList.all fun o => match o.dst with | some d => decide (d < n) | none => true
  | .seq a b | .cond _ a b => dstsOk n a && dstsOk n b
  | .block _ b | .loop b => dstsOk n b
  | _ => true
def cFunc (f : Func) : Option CFunc := match f.body with
  | none => none
  | some c =>
    let np := f.params.size + f.nfree
    let slots := (olds c ++ f.results.toList.map fun r => match r with | ResultVar.tmp t => t | ResultVar.cell t _ => t).foldl (fun l t => addN t l) (List.range np)
    if dstsOk f.ntmps c && decide (np ≤ f.ntmps) && f.name != "runtime.NumGoroutine" then
      match mapC (rvC P slots) f.results.toList with
      | some rs => some { np := np, nslots := slots.length, body := cCode P L slots c, results := rs }
      | none => none
    else none
end
end Go.Ab
