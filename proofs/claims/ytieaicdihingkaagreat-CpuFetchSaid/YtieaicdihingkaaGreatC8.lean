/- Plain facts of the encoding of an instruction. -/
import Derived.Test.YtieaicdihingkaaGreatC7
import Derived.Test.YtieaicdihingkaaGreatC5
import Derived.Test.YtieaicdihingkaaGreatJ0
import Derived.Laws.AppendOwnNone
namespace Go.Proofs.YtieaicdihingkaaGreat
set_option linter.unusedVariables false
set_option linter.unusedSimpArgs false
open Go.RowKit
def bytesI (l : List Int) : List UInt8 := l.map fun x => UInt8.ofNat x.toNat
theorem byte_one (x : Int) (h0 : 0 ≤ x) (h1 : x < 256) : ((UInt8.ofNat x.toNat).toNat : Int) = x := by
 rw [UInt8.toNat_ofNat']; simp only [Nat.reducePow]; omega
theorem bytesI_cells : ∀ (l : List Int), (∀ x ∈ l, 0 ≤ x ∧ x < 256) → Lib.byteCells (bytesI l) = l.map (Value.int .u8)
 | [], _ => rfl
 | x :: l, h => by
  have hx := h x (by simp)
  have ih := bytesI_cells l (fun y hy => h y (by simp [hy]))
  unfold Lib.byteCells bytesI at *
  rw [List.map_cons, List.map_cons, ih, byte_one x hx.1 hx.2]
  rfl
def encL (i : InsI) (fs : List Int) : List Int := (i.op % 256) :: fs.flatMap (putL · i)
def encB (i : InsI) (fs : List Int) : ByteArray := ⟨(bytesI (encL i fs)).toArray⟩
def sameI (a b : InsI) : Bool := decide (a.op = b.op) && (decide (a.d = b.d) && (decide (a.s = b.s) && (decide (a.imm = b.imm) && (decide (a.aux = b.aux) && (decide (a.bank = b.bank) && decide (a.size = b.size))))))
def validI (i : InsI) : Bool :=
 match fmtOf i.op with
 | none => false
 | some fs => fs.all (fitI · i) && sameI (readI (encB i fs) fs) i
theorem putL_bd (f : Int) (i : InsI) (hi : i.Ok) (h : fitI f i = true) : ∀ x ∈ putL f i, 0 ≤ x ∧ x < 256 := by
 obtain ⟨u0, u1, v0, v1⟩ := hi
 intro x hx
 have hz : f = 1 ∨ f = 2 ∨ f = 3 ∨ f = 4 ∨ f = 5 ∨ f = 6 ∨ f = 7 ∨ f = 8 ∨ f = 9 ∨ putL f i = [] := by
  by_cases e : 1 ≤ f ∧ f ≤ 9
  ·omega
  ·have : putL f i = [] := by unfold putL; rw [if_neg (by omega), if_neg (by omega), if_neg (by omega), if_neg (by omega), if_neg (by omega), if_neg (by omega), if_neg (by omega)]
   simp [this]
 rcases hz with rfl | rfl | rfl | rfl | rfl | rfl | rfl | rfl | rfl | hz
 all_goals first | (rw [hz] at hx; cases hx; done) | (simp [putL, fitI, regI] at hx h; omega)
theorem putL_len (f : Int) (i : InsI) (h0 : 0 ≤ f) (h9 : f ≤ 9) : ((putL f i).length : Int) = widthI f := by
 rcases (show f = 0 ∨ f = 1 ∨ f = 2 ∨ f = 3 ∨ f = 4 ∨ f = 5 ∨ f = 6 ∨ f = 7 ∨ f = 8 ∨ f = 9 by omega) with rfl | rfl | rfl | rfl | rfl | rfl | rfl | rfl | rfl | rfl <;> rfl
theorem fmtFind_mem (op : Int) (fs : List Int) : ∀ l : List (Int × Int × List Int), fmtFind op l = some fs → ∃ a b, (a, b, fs) ∈ l ∧ a ≤ op ∧ op ≤ b
 | [], h => by cases h
 | (a, b, x) :: t, h => by
  unfold fmtFind at h
  split at h
  ·cases h; exact ⟨a, b, by simp, by assumption⟩
  ·obtain ⟨a', b', h1, h2⟩ := fmtFind_mem op fs t h
   exact ⟨a', b', by simp [h1], h2⟩
theorem formatL_bd : ∀ e ∈ formatL, 0 ≤ e.1 ∧ e.2.1 ≤ 255 ∧ ∀ f ∈ e.2.2, 0 ≤ f ∧ f ≤ 9 := by decide
theorem fmtOf_bd {op : Int} {fs : List Int} (h : fmtOf op = some fs) : (0 ≤ op ∧ op ≤ 255) ∧ ∀ f ∈ fs, 0 ≤ f ∧ f ≤ 9 := by
 obtain ⟨a, b, h1, h2⟩ := fmtFind_mem op fs _ h
 obtain ⟨h3, h4, h5⟩ := formatL_bd _ h1
 exact ⟨⟨by simp at h3; omega, by simp at h4; omega⟩, h5⟩
theorem encL_bd (i : InsI) (hi : i.Ok) (fs : List Int) (h : ∀ f ∈ fs, fitI f i = true) : ∀ x ∈ encL i fs, 0 ≤ x ∧ x < 256 := by
 intro x hx
 unfold encL at hx
 rw [List.mem_cons] at hx
 rcases hx with rfl | hx
 ·omega
 ·obtain ⟨f, hf, hx⟩ := List.mem_flatMap.1 hx
  exact putL_bd f i hi (h f hf) x hx
theorem encL_len (i : InsI) : ∀ (fs : List Int), (∀ f ∈ fs, 0 ≤ f ∧ f ≤ 9) → ((encL i fs).length : Int) = 1 + (fs.map widthI).sum
 | [], _ => rfl
 | f :: fs, h => by
  have ih := encL_len i fs (fun g hg => h g (by simp [hg]))
  have hf := h f (by simp)
  have := putL_len f i hf.1 hf.2
  unfold encL at *
  rw [List.flatMap_cons, List.length_cons, List.length_append]
  rw [List.length_cons] at ih
  rw [List.map_cons, List.sum_cons]
  push_cast at *
  omega
theorem encB_size (i : InsI) (fs : List Int) : (encB i fs).size = (encL i fs).length := by
 show (bytesI (encL i fs)).toArray.size = _
 simp [bytesI]
theorem encL_step (i : InsI) (fs : List Int) (k : Nat) (f : Int) (h : fs[k]? = some f) : encL i (fs.take (k + 1)) = encL i (fs.take k) ++ putL f i := by
 unfold encL
 rw [List.take_add_one, h]
 simp
theorem all_step (i : InsI) (fs : List Int) (k : Nat) (f : Int) (h : fs[k]? = some f) (hk : ∀ g ∈ fs.take k, fitI g i = true) (hf : fitI f i = true) : ∀ g ∈ fs.take (k + 1), fitI g i = true := by
 intro g hg
 rw [List.take_add_one, h] at hg
 simp at hg
 rcases hg with hg | rfl
 ·exact hk g hg
 ·exact hf
end Go.Proofs.YtieaicdihingkaaGreat
namespace Go.Proofs.YtieaicdihingkaaGreat
set_option linter.unusedVariables false
set_option linter.unusedSimpArgs false
open Go.RowKit
theorem info5 : (Tryz.prog.info? 5).map (fun i => (i.zero, i.size, i.bytes)) = some (some (.int .u8 0), 1, 1) := by kernel_rfl
theorem grown_below {w w' : World} (h : Below w.heap.size w w') (row : Option Nat) : w.grownBy w' row := ⟨h.os, h.tape, h.output, h.size, fun k hk _ => h.block k hk⟩
theorem below_grown {B : Nat} {w w1 w2 : World} {row : Option Nat} (h : Below B w w1) (hB : B ≤ w1.heap.size) (g : w1.grownBy w2 row) (hr : ∀ k, row = some k → B ≤ k) : Below B w w2 :=
 ⟨g.1.trans h.os, g.2.trans h.tape, g.3.trans h.output, Nat.le_trans h.size g.4, fun k hk => (g.5 k (by omega) (fun e => by have := hr k e.symm; omega)).trans (h.block k hk)⟩
theorem four {w W : World} {M : Nat} (h : Below w.heap.size w W) (hM : w.heap.size ≤ M) (o : Obj) (a b c d : Value) : Below w.heap.size w (((((W.alloc o).setCell ⟨M, 0, none⟩ a).setCell ⟨M, 1, none⟩ b).setCell ⟨M, 2, none⟩ c).setCell ⟨M, 3, none⟩ d) :=
 ((((below_alloc h _).setCell (p := ⟨M, 0, none⟩) hM _).setCell (p := ⟨M, 1, none⟩) hM _).setCell (p := ⟨M, 2, none⟩) hM _).setCell (p := ⟨M, 3, none⟩) hM _
theorem own_next {w w' : World} {base e size n : Nat} {v : Value} {xs : List Value} (h : w.ownsRow base e size v n xs) (hb : Below w.heap.size w w') : w'.ownsRow base e size v n xs := h.kept (grown_below hb none) (by cases v.ownBlock <;> simp)
theorem eqIf (X i : InsI) (V : World) : (if X.op = i.op then if X.d = i.d then if X.s = i.s then if X.imm = i.imm then if X.aux = i.aux then if X.bank = i.bank then if X.size = i.size then Result.ok (Next.value (Value.bool true)) V else Result.ok (Next.value (Value.bool false)) V else Result.ok (Next.value (Value.bool false)) V else Result.ok (Next.value (Value.bool false)) V else Result.ok (Next.value (Value.bool false)) V else Result.ok (Next.value (Value.bool false)) V else Result.ok (Next.value (Value.bool false)) V else Result.ok (Next.value (Value.bool false)) V) = Result.ok (Next.value (Value.bool (sameI X i))) V := by
 unfold sameI
 by_cases h1 : X.op = i.op
 ·by_cases h2 : X.d = i.d
  ·by_cases h3 : X.s = i.s
   ·by_cases h4 : X.imm = i.imm
    ·by_cases h5 : X.aux = i.aux
     ·by_cases h6 : X.bank = i.bank
      ·by_cases h7 : X.size = i.size <;> simp [h1, h2, h3, h4, h5, h6, h7]
      ·simp [h1, h2, h3, h4, h5, h6]
     ·simp [h1, h2, h3, h4, h5]
    ·simp [h1, h2, h3, h4]
   ·simp [h1, h2, h3]
  ·simp [h1, h2]
 ·simp [h1]
theorem fmtL_eq {i : InsI} {f0 f1 f2 f3 : Int} (hf : fmtOf i.op = some [f0, f1, f2, f3]) : validI i = ([f0, f1, f2, f3].all (fitI · i) && sameI (readI (encB i [f0, f1, f2, f3]) [f0, f1, f2, f3]) i) := by unfold validI; rw [hf]
theorem one_bytes (l : List Int) : ∀ u ∈ l.map (Value.int .u8), u.oneCell' = true := by intro u hu; obtain ⟨x, _, rfl⟩ := List.mem_map.1 hu; rfl
set_option maxRecDepth 8000 in
set_option maxHeartbeats 4000000 in
theorem valid_any (i : InsI) (w : World) (hi : i.Ok) : Calls Tryz.prog 65 #[.agg #[.int .i64 i.op, .int .i64 i.d, .int .i64 i.s, .int .u16 i.imm, .int .u16 i.aux, .int .i64 i.bank, .int .i64 i.size]] w fun e w' => e = .returned (.bool (validI i)) ∧ Below w.heap.size w w' := by
 have KI := Lib.hid hi
 clear hi
 obtain ⟨i5, hi5, hz5, hs5, hb5⟩ : ∃ i5, Tryz.prog.info? 5 = some i5 ∧ i5.zero = some (.int .u8 0) ∧ i5.size = 1 ∧ i5.bytes = 1 := by
  have := info5
  cases h : Tryz.prog.info? 5 with
  | none => rw [h] at this; cases this
  | some x => rw [h] at this; simp at this; exact ⟨x, rfl, this⟩
 have KN := Lib.hid (And.intro hi5 (And.intro hz5 (And.intro hs5 hb5)))
 clear hi5 hz5 hs5 hb5
 have KB := Lib.hid (below1 w (Obj.cells #[.int .i64 i.op, .int .i64 i.d, .int .i64 i.s, .int .u16 i.imm, .int .u16 i.aux, .int .i64 i.bank, .int .i64 i.size] 68))
 have KA := Lib.hid (alloc_at w (Obj.cells #[.int .i64 i.op, .int .i64 i.d, .int .i64 i.s, .int .u16 i.imm, .int .u16 i.aux, .int .i64 i.bank, .int .i64 i.size] 68))
 have KZ : Hid ((w.alloc (Obj.cells #[.int .i64 i.op, .int .i64 i.d, .int .i64 i.s, .int .u16 i.imm, .int .u16 i.aux, .int .i64 i.bank, .int .i64 i.size] 68)).heap.size = w.heap.size + 1) := Lib.hid (by simp)
 go_enter Tryz.func65, Tryz.ntmps65
 go_wp2_with fail
 refine formatOf_any _ _ _ (Lib.hid ?_)
 rintro e w1 ⟨hp, h1⟩
 have KW1 := Lib.hid (below_next KB.out h1)
 have KA1 := Lib.hid ((h1.block w.heap.size (by rw [KZ.out]; omega)).trans KA.out)
 have KL : Hid (w.heap.size < w1.heap.size) := Lib.hid (by have := h1.size; rw [KZ.out] at this; omega)
 clear h1 KA KB KZ
 rcases hp with ⟨f0, f1, f2, f3, hf, rfl⟩ | ⟨hf, rfl⟩
 case inr =>
  have HR : Hid (validI i = false) := Lib.hid (by unfold validI; rw [hf])
  clear hf
  go_wp2_with fail
  go_ret
  exact ⟨ret_bool HR.out.symm, below_alloc KW1.out _⟩
 have hbd := (fmtOf_bd hf).2
 have HF := Lib.hid hf
 have HV := Lib.hid (fmtL_eq hf)
 have HBD := Lib.hid hbd
 clear hf hbd
 generalize hW2 : w1.alloc (Obj.cells #[Value.int IntKind.i64 f0, Value.int IntKind.i64 f1, Value.int IntKind.i64 f2, Value.int IntKind.i64 f3] 98) = W2
 have hB2 : Below w1.heap.size w1 W2 := by
  subst hW2
  exact below1 w1 _
 have hs2 : W2.heap.size = w1.heap.size + 1 := by subst hW2; simp
 have hc2 : W2.heap[w1.heap.size]? = some (Obj.cells #[Value.int IntKind.i64 f0, Value.int IntKind.i64 f1, Value.int IntKind.i64 f2, Value.int IntKind.i64 f3] 98) := by
  subst hW2
  exact alloc_at _ _
 have hi2 := (hB2.block w.heap.size KL.out).trans KA1.out
 have KC : Hid (∀ V, Below W2.heap.size W2 V → ((V.cell? ⟨w.heap.size, 0, none⟩ = some (.int .i64 i.op) ∧ V.cell? ⟨w.heap.size, 1, none⟩ = some (.int .i64 i.d) ∧ V.cell? ⟨w.heap.size, 2, none⟩ = some (.int .i64 i.s) ∧ V.cell? ⟨w.heap.size, 3, none⟩ = some (.int .u16 i.imm) ∧ V.cell? ⟨w.heap.size, 4, none⟩ = some (.int .u16 i.aux) ∧ V.cell? ⟨w.heap.size, 5, none⟩ = some (.int .i64 i.bank) ∧ V.cell? ⟨w.heap.size, 6, none⟩ = some (.int .i64 i.size)) ∧ (V.cell? ⟨w1.heap.size, 0, none⟩ = some (.int .i64 f0) ∧ V.cell? ⟨w1.heap.size, 1, none⟩ = some (.int .i64 f1) ∧ V.cell? ⟨w1.heap.size, 2, none⟩ = some (.int .i64 f2) ∧ V.cell? ⟨w1.heap.size, 3, none⟩ = some (.int .i64 f3))) ∧ Below w.heap.size w V) := Lib.hid fun V hV => by
  have hb := (hV.block w.heap.size (by have := KL.out; omega)).trans hi2
  have hc := (hV.block w1.heap.size (by omega)).trans hc2
  refine ⟨⟨⟨Lib.cell_of_heap hb 0, Lib.cell_of_heap hb 1, Lib.cell_of_heap hb 2, Lib.cell_of_heap hb 3, Lib.cell_of_heap hb 4, Lib.cell_of_heap hb 5, Lib.cell_of_heap hb 6⟩, Lib.cell_of_heap hc 0, Lib.cell_of_heap hc 1, Lib.cell_of_heap hc 2, Lib.cell_of_heap hc 3⟩, below_next (below_next KW1.out hB2) hV⟩
 clear hi2 hc2 hs2 hB2 KA1 KW1
 go_upto_region 4 with (fail)
 clear hW2
 have hop : IntKind.u8.wrap i.op = i.op % 256 := by rw [IntKind.wrap_u8]
 obtain ⟨⟨⟨c0, c1, c2, c3, c4, c5, c6⟩, e0, e1, e2, e3⟩, _⟩ := KC.out W2 (Below.refl _ _)
 go_upto_region 5 with (fail)
 have KO : Hid ((W2.alloc (Obj.cells #[Value.int IntKind.u8 (i.op % 256)] 5)).ownsRow W2.heap.size 5 1 (.slice (some ⟨W2.heap.size, 0, none⟩) 1 1) 1 ((encL i ([f0, f1, f2, f3].take 0)).map (Value.int .u8))) := Lib.hid ⟨rfl, .inr ⟨W2.heap.size, 1, _, rfl, Nat.le_refl _, alloc_at _ _, by omega, by decide, rfl, rfl⟩⟩
 have KB := Lib.hid (below1 W2 (Obj.cells #[Value.int IntKind.u8 (i.op % 256)] 5))
 clear hop c0 c1 c2 c3 c4 c5 c6 e0 e1 e2 e3
 generalize W2.alloc _ = W3 at *
 obtain ⟨⟨_, e0, e1, e2, e3⟩, _⟩ := KC.out W3 KB.out
 go_wp2_with fail
 clear e0 e1 e2 e3
 go_loopw [5, 21] (fun v i_ wr => ∃ k n : Nat, k ≤ 4 ∧ i_ = .int .i64 k ∧ n ≤ 1 + 2 * k ∧ (∀ f ∈ [f0, f1, f2, f3].take k, fitI f i = true) ∧ wr.ownsRow W2.heap.size 5 1 v n ((encL i ([f0, f1, f2, f3].take k)).map (Value.int .u8)) ∧ Below W2.heap.size W2 wr) (fun _ i_ _ => 4 - (intOf i_).toNat)
 case atStart => exact ⟨0, 1, by omega, rfl, by omega, by simp, KO.out, KB.out⟩
 case round =>
  obtain ⟨k, n, hk, rfl, hn, hfit, hown, hb⟩ := hrel
  have KW := Lib.hid hb
  have KOW := Lib.hid hown
  have KFT := Lib.hid hfit
  have KN2 := Lib.hid hn
  clear hb hown hfit hn KO KB
  by_cases hlt : k < 4
  ·have hb0 : decide ((k : Int) < 4) = true := decide_eq_true (by omega)
   obtain ⟨f, hfk, hidx⟩ := idx4 f0 f1 f2 f3 k hlt
   have hx := hidx wr
   have x1 : IntKind.i64.wrap ((k : Int) + 1) = (k : Int) + 1 := IntWalk.i64_in _ (by omega)
   have KFK := Lib.hid hfk
   have hfb := HBD.out f (List.mem_of_getElem? hfk)
   have KFB := Lib.hid hfb
   obtain ⟨⟨⟨c0, c1, c2, c3, c4, c5, c6⟩, _⟩, _⟩ := KC.out wr KW.out
   have HF1 := Lib.hid (fun V => fits_any f i V hfb.1 hfb.2 ⟨KI.out.m0, KI.out.m1⟩)
   clear hfk hfb hidx
   go_wp2_with fail
   refine (HF1.out _).mono ?_
   rintro e w3 ⟨rfl, h3⟩
   clear c0 c1 c2 c3 c4 c5 c6 hx hb0
   have KW3 := Lib.hid (below_next KW.out h3)
   have KO3 := Lib.hid (own_next KOW.out h3)
   clear h3 KOW KW
   cases hft : fitI f i
   ·have HR : Hid (validI i = false) := Lib.hid (by rw [HV.out, List.all_eq_false.2 ⟨f, List.mem_of_getElem? KFK.out, by simp [hft]⟩]; rfl)
    have HB := Lib.hid (KC.out _ KW3.out).2
    clear hft
    go_wp2_with fail
    exact bodyPost_ret (by simp [results, Tryz.results65, go_sem]) rfl ⟨ret_bool HR.out.symm, HB.out⟩
   ·have HP := Lib.hid (fun V => put_any f i V KFB.out.1 KFB.out.2 KI.out hft)
    have HT := Lib.hid hft
    clear hft
    obtain ⟨⟨⟨c0, c1, c2, c3, c4, c5, c6⟩, _⟩, _⟩ := KC.out _ KW3.out
    go_wp2_with fail
    refine (HP.out _).mono ?_
    rintro e w4 ⟨hp, h4⟩
    clear c0 c1 c2 c3 c4 c5 c6
    have KW4 := Lib.hid (below_next KW3.out h4)
    have KO4 := Lib.hid (own_next KO3.out h4)
    have KS := Lib.hid KW4.out.size
    clear h4 KO3 KW3
    rcases hp with ⟨hp, rfl⟩ | ⟨g, c, rfl, hg, hcell⟩
    ·have HE : Hid (encL i ([f0, f1, f2, f3].take (k + 1)) = encL i ([f0, f1, f2, f3].take k)) := Lib.hid (by rw [encL_step i _ k f KFK.out, hp, List.append_nil])
     clear hp
     go_wp2_with (at_builtin; refine Hid.out ?_)
     refine Lib.hid ?_
     refine wpList_append_own_none rfl _ _ 42 rfl W2.heap.size 5 i5 1 Tryz.underlying42 KN.out.1 _ _ _ rfl KO4.out rfl ?_
     go_wp2_with fail
     go_roundw
     case rel => exact ⟨k + 1, n, by omega, by go_num, by have := KN2.out; omega, all_step i _ k f KFK.out KFT.out HT.out, HE.out ▸ KO4.out, KW4.out⟩
     case measure => simp [intOf]; omega
    ·have HL : Hid ((putL f i).length ≤ 2) := Lib.hid (by have h1 := putL_len f i KFB.out.1 KFB.out.2; have h2 := widthI_bd f; omega)
     have HE : Hid ((encL i ([f0, f1, f2, f3].take (k + 1))).map (Value.int .u8) = (encL i ([f0, f1, f2, f3].take k)).map (Value.int .u8) ++ (putL f i).map (Value.int .u8)) := Lib.hid (by rw [encL_step i _ k f KFK.out, List.map_append])
     have HC := Lib.hid hcell
     clear hcell hg
     go_wp2_with (at_builtin; refine Hid.out ?_)
     refine Lib.hid ?_
     refine wpList_append_own _ rfl _ _ 42 rfl W2.heap.size 5 i5 (.int .u8 0) 1 1 Tryz.underlying42 KN.out.1 KN.out.2.1 KN.out.2.2.1 KN.out.2.2.2 rfl (by decide) _ _ _ rfl KO4.out _ _ _ ((putL f i).map (Value.int .u8)) rfl (by simp) HC.out (one_bytes _) (by have := KN2.out; have := HL.out; unfold maxLen; omega) (by have := KN2.out; have := HL.out; omega) KS.out ?_
     intro v5 w5 hown5 hg5 _
     have KO5 := Lib.hid hown5
     have KW5 := Lib.hid (below_grown KW4.out KS.out hg5 (fun q hq => (KO4.out.lt q hq).1))
     clear hown5 hg5
     go_wp2_with fail
     go_roundw
     case rel => exact ⟨k + 1, n + (putL f i).length, by omega, by go_num, by have := KN2.out; have := HL.out; omega, all_step i _ k f KFK.out KFT.out HT.out, HE.out ▸ KO5.out, KW5.out⟩
     case measure => simp [intOf]; omega
  ·obtain rfl : k = 4 := by omega
   have hb0 : decide (((4 : Nat) : Int) < 4) = false := by decide
   have HA : Hid ([f0, f1, f2, f3].all (fitI · i) = true) := Lib.hid (by rw [List.all_eq_true]; intro f hf; exact KFT.out f (by simpa using hf))
   have HZ : Hid ((encB i [f0, f1, f2, f3]).size = (encL i [f0, f1, f2, f3]).length) := Lib.hid (encB_size i _)
   have HZ2 : Hid (((encL i [f0, f1, f2, f3]).length : Int) = 1 + wsum [f0, f1, f2, f3] 4) := Lib.hid (encL_len i _ HBD.out)
   have HNL : Hid ((encL i [f0, f1, f2, f3]).length = n) := Lib.hid (by have := KOW.out.1; simp at this; simpa using this)
   have HRd : Hid (∀ V, Calls Tryz.prog 64 #[.string (encB i [f0, f1, f2, f3]), .agg #[.int .i64 f0, .int .i64 f1, .int .i64 f2, .int .i64 f3]] V fun e w' => e = .returned (.agg (readI (encB i [f0, f1, f2, f3]) [f0, f1, f2, f3]).cells.toArray) ∧ Below V.heap.size V w') := Lib.hid fun V => read_any _ f0 f1 f2 f3 V HBD.out (by rw [HZ.out, HZ2.out]; exact Int.le_refl _) (by rw [HZ.out, HNL.out]; have := KN2.out; omega)
   have HCV : Hid (∀ V, Below wr.heap.size wr V → (convert 42 9 u5).run Tryz.prog V = .ok (.string (encB i [f0, f1, f2, f3])) V) := Lib.hid fun V hV => back_run V u5 (bytesI (encL i [f0, f1, f2, f3])) W2.heap.size n (by rw [bytesI_cells _ (encL_bd i KI.out _ (fun f hf => KFT.out f (by simpa using hf)))]; exact OwnsM.of (own_next KOW.out hV)) (by simp [bytesI, encL])
   generalize encB i [f0, f1, f2, f3] = T at *
   have HX : ∃ X : InsI, readI T [f0, f1, f2, f3] = X := ⟨_, rfl⟩
   obtain ⟨X, hX⟩ := HX
   rw [hX] at HRd HV
   have HRd2 : Hid (∀ V, Calls Tryz.prog 64 #[.string T, .agg #[.int .i64 f0, .int .i64 f1, .int .i64 f2, .int .i64 f3]] V fun e w' => e = .returned (.agg #[.int .i64 X.op, .int .i64 X.d, .int .i64 X.s, .int .u16 X.imm, .int .u16 X.aux, .int .i64 X.bank, .int .i64 X.size]) ∧ Below V.heap.size V w') := HRd
   have HVV : Hid (validI i = sameI X i) := Lib.hid (by rw [HV.out, HA.out]; rfl)
   have HKC : Hid (∀ V, Below wr.heap.size wr V → _) := Lib.hid fun V hV => KC.out V (below_next KW.out hV)
   clear HRd hX HA HZ HZ2 HNL HV
   go_upto_region 12 with (fail)
   clear hb0
   refine wp_region_flow (S := fun V => Below wr.heap.size wr V) (by kernel_rfl) (by kernel_rfl) (Below.drew (Below.refl _ _)) ?_
   iterate 3
    apply Flow.step
    ·intro V K hS hK
     obtain hcv := HCV.out V hS
     obtain ⟨⟨_, e0, e1, e2, e3⟩, _⟩ := HKC.out V hS
     go_simp
     exact hK _ hS
    simp only [lQ]
   apply Flow.step
   ·intro V K hS hK
    go_simp
    go_at_call 64
    refine (HRd2.out V).mono ?_
    rintro e w9 ⟨rfl, h9⟩
    exact hK _ (below_next hS h9)
   simp only [lQ]
   apply Flow.step
   ·intro V K hS hK
    obtain ⟨⟨⟨c0, c1, c2, c3, c4, c5, c6⟩, _⟩, _⟩ := HKC.out V hS
    go_simp
    exact hK _ hS
   simp only [lQ]
   apply Flow.step
   ·intro V K hS hK
    go_simp
    rw [eqIf]
    exact hK _ hS
   simp only [lQ]
   apply Flow.step
   ·intro V K hS hK
    go_simp
    exact hK _ hS
   simp only [lQ]
   refine Flow.done ?_
   intro V hS
   have HB := Lib.hid (HKC.out _ hS).2
   clear hS
   go_wp2_with fail
   exact bodyPost_ret (v := .bool (sameI X i)) (by simp [results, Tryz.results65, go_sem]) rfl ⟨ret_bool HVV.out.symm, HB.out⟩
end Go.Proofs.YtieaicdihingkaaGreat
