/- isa: the formats of instructions. -/
import Derived.Test.YtieaicdihingkaaGreatProg
import Derived.WalkKit
import Derived.Lib.Hide
import Derived.Deep.QuietTactic
import Derived.Deep.WholeRow
import Derived.Laws.ResultCell
import Derived.LoopTactic
import Derived.Deep.Cut
import Derived.Deep.DeepCutAuto
import Derived.BigGuard
import Derived.BigRegion
import Derived.WalkLawsBesides
import Derived.StillTailTactics
import Derived.IntWalk
namespace Go.Proofs.YtieaicdihingkaaGreat
set_option linter.unusedVariables false
open Go.RowKit
theorem below1 (w : World) (a : Obj) : Below w.heap.size w (w.alloc a) := (Below.refl _ _).alloc (Nat.le_refl _) _
/-- The table of formats: from, to, four fields. -/
def formatL : List (Int × Int × List Int) := [(0, 5, [0, 0, 0, 0]), (16, 19, [2, 0, 0, 0]), (20, 21, [4, 0, 0, 0]), (32, 46, [1, 0, 0, 0]), (48, 62, [2, 5, 0, 0]), (64, 78, [2, 6, 0, 0]), (80, 83, [1, 5, 0, 0]), (88, 91, [1, 6, 0, 0]),
 (84, 87, [2, 6, 0, 0]), (96, 109, [5, 0, 0, 0]), (112, 125, [6, 0, 0, 0]), (128, 128, [5, 0, 0, 0]), (129, 130, [6, 0, 0, 0]), (131, 132, [8, 6, 0, 0]), (133, 133, [2, 9, 6, 7]), (134, 134, [2, 6, 0, 0]), (144, 145, [2, 4, 0, 0]),
 (146, 147, [1, 8, 6, 0]), (150, 150, [3, 6, 7, 0]), (160, 161, [2, 4, 0, 0]), (162, 163, [2, 5, 0, 0])]
def formatN : List Int := formatL.flatMap fun (a, b, l) => a :: b :: l
def formatsC : Array Value := (formatN.map (Value.int .i64)).toArray
theorem store_list {P : Program} {w : World} {t : TypeId} {c : Array Value} {l : List Value} (C : Array Value) (hC : l = C.toList) (hi : (P.info? t).map (·.size) = some C.size) (ho : c.size = C.size) (h1 : C.all (·.oneCell') = true) :
  (storeCells ⟨w.heap.size, 0, none⟩ l 0).run P (w.alloc (.cells c t)) = .ok () (w.alloc (.cells C t)) := by
 subst hC
 exact run_storeCells_new w t c C hi ho h1
theorem result_row {P : Program} {fn : Func} {p : Tmp} {t : TypeId} (h : fn.results = #[.cell p t]) (tmps : Array Value) (w : World) (C : Array Value) (hp : tmps[p]?.getD undef = .pointer (some ⟨w.heap.size, 0, none⟩)) (n : Nat) (e : TypeId) (hu : P.underlying t = some (.array n e)) (hi : (P.info? t).map (·.size) = some C.size) :
  (results fn tmps).run P (w.alloc (.cells C t)) = .ok (.agg C) (w.alloc (.cells C t)) := by
 have hl := run_loadVar_new (P := P) w t C n e hu hi
 simp only [results, h]
 simp [hp, asAddr, hl]
set_option maxRecDepth 100000 in
set_option maxHeartbeats 8000000 in
theorem formats_any (w : World) : Calls Tryz.prog 86 #[] w fun e w' => e = .returned (.agg formatsC) ∧ Below w.heap.size w w' := by
 go_enter Tryz.func86, Tryz.ntmps86
 go_wp2
 rw [store_list formatsC (by kernel_rfl) (by kernel_rfl) (by kernel_rfl) (by kernel_rfl)]
 simp only [Result.andThen]
 rw [Oper.upon_skip]
 go_wp2
 refine bodyPost_ret (v := .agg formatsC) ?_ rfl ⟨rfl, below1 _ _⟩
 exact result_row rfl _ _ _ rfl 21 116 (by kernel_rfl) (by kernel_rfl)
end Go.Proofs.YtieaicdihingkaaGreat
namespace Go.Proofs.YtieaicdihingkaaGreat
set_option linter.unusedVariables false
set_option linter.unusedSimpArgs false
open Go.RowKit
theorem below_next {w w1 w2 : World} (h : Below w.heap.size w w1) (k : Below w1.heap.size w1 w2) : Below w.heap.size w w2 := h.trans (k.mono h.size)
theorem below_alloc {w w1 : World} (h : Below w.heap.size w w1) (o : Obj) : Below w.heap.size w (w1.alloc o) := h.alloc h.size o
def fmtFind (op : Int) : List (Int × Int × List Int) → Option (List Int)
 | [] => none
 | (a, b, l) :: t => if a ≤ op ∧ op ≤ b then some l else fmtFind op t
def fmtOf (op : Int) : Option (List Int) := fmtFind op formatL
structure Fmt (k : Nat) (a b f0 f1 f2 f3 : Int) : Prop where
 at' : formatL[k]? = some (a, b, [f0, f1, f2, f3])
 idx : ∀ w, (Instr.index 117 (.agg formatsC) (.int .i64 (k : Int))).run Tryz.prog w = .ok (.agg #[.int .i64 a, .int .i64 b, .int .i64 f0, .int .i64 f1, .int .i64 f2, .int .i64 f3]) w
theorem fmt_row : ∀ k : Nat, k < 21 → ∃ a b f0 f1 f2 f3, Fmt k a b f0 f1 f2 f3
 | 0, _ => ⟨_, _, _, _, _, _, rfl, fun _ => by kernel_rfl⟩
 | 1, _ => ⟨_, _, _, _, _, _, rfl, fun _ => by kernel_rfl⟩
 | 2, _ => ⟨_, _, _, _, _, _, rfl, fun _ => by kernel_rfl⟩
 | 3, _ => ⟨_, _, _, _, _, _, rfl, fun _ => by kernel_rfl⟩
 | 4, _ => ⟨_, _, _, _, _, _, rfl, fun _ => by kernel_rfl⟩
 | 5, _ => ⟨_, _, _, _, _, _, rfl, fun _ => by kernel_rfl⟩
 | 6, _ => ⟨_, _, _, _, _, _, rfl, fun _ => by kernel_rfl⟩
 | 7, _ => ⟨_, _, _, _, _, _, rfl, fun _ => by kernel_rfl⟩
 | 8, _ => ⟨_, _, _, _, _, _, rfl, fun _ => by kernel_rfl⟩
 | 9, _ => ⟨_, _, _, _, _, _, rfl, fun _ => by kernel_rfl⟩
 | 10, _ => ⟨_, _, _, _, _, _, rfl, fun _ => by kernel_rfl⟩
 | 11, _ => ⟨_, _, _, _, _, _, rfl, fun _ => by kernel_rfl⟩
 | 12, _ => ⟨_, _, _, _, _, _, rfl, fun _ => by kernel_rfl⟩
 | 13, _ => ⟨_, _, _, _, _, _, rfl, fun _ => by kernel_rfl⟩
 | 14, _ => ⟨_, _, _, _, _, _, rfl, fun _ => by kernel_rfl⟩
 | 15, _ => ⟨_, _, _, _, _, _, rfl, fun _ => by kernel_rfl⟩
 | 16, _ => ⟨_, _, _, _, _, _, rfl, fun _ => by kernel_rfl⟩
 | 17, _ => ⟨_, _, _, _, _, _, rfl, fun _ => by kernel_rfl⟩
 | 18, _ => ⟨_, _, _, _, _, _, rfl, fun _ => by kernel_rfl⟩
 | 19, _ => ⟨_, _, _, _, _, _, rfl, fun _ => by kernel_rfl⟩
 | 20, _ => ⟨_, _, _, _, _, _, rfl, fun _ => by kernel_rfl⟩
 | n + 21, h => by omega
theorem fmt_hit {op : Int} {k : Nat} {a b f0 f1 f2 f3 : Int} (h : Fmt k a b f0 f1 f2 f3) (hh : a ≤ op ∧ op ≤ b) : fmtFind op (formatL.drop k) = some [f0, f1, f2, f3] := by
 obtain ⟨hk, e⟩ := List.getElem?_eq_some_iff.1 h.at'
 rw [List.drop_eq_getElem_cons hk, e]
 exact if_pos hh
theorem fmt_miss {op : Int} {k : Nat} {a b f0 f1 f2 f3 : Int} (h : Fmt k a b f0 f1 f2 f3) (hh : ¬ (a ≤ op ∧ op ≤ b)) : fmtFind op (formatL.drop k) = fmtFind op (formatL.drop (k + 1)) := by
 obtain ⟨hk, e⟩ := List.getElem?_eq_some_iff.1 h.at'
 rw [List.drop_eq_getElem_cons hk, e]
 exact if_neg hh
def FmtPost (op : Int) (w : World) (e : Ending) (w' : World) : Prop :=
 ((∃ f0 f1 f2 f3, fmtOf op = some [f0, f1, f2, f3] ∧ e = .returned (.tuple #[.agg #[.int .i64 f0, .int .i64 f1, .int .i64 f2, .int .i64 f3], .bool true])) ∨ (fmtOf op = none ∧ e = .returned (.tuple #[.agg #[.int .i64 0, .int .i64 0, .int .i64 0, .int .i64 0], .bool false]))) ∧ Below w.heap.size w w'
set_option maxRecDepth 8000 in
set_option maxHeartbeats 4000000 in
theorem formatOf_any (op : Int) (w : World) (R : Ending → World → Prop) (HR : Hid (∀ e w', FmtPost op w e w' → R e w')) : Calls Tryz.prog 62 #[.int .i64 op] w R := by
 have KB := Lib.hid (below1 w (Obj.cells #[Value.int IntKind.i64 0, Value.int IntKind.i64 0, Value.int IntKind.i64 0, Value.int IntKind.i64 0] 98))
 go_enter Tryz.func62, Tryz.ntmps62
 go_wp2_with fail
 refine (formats_any _).mono ?_
 rintro e w1 ⟨rfl, h1⟩
 have hg : w.heap.size < (w.alloc (Obj.cells #[Value.int IntKind.i64 0, Value.int IntKind.i64 0, Value.int IntKind.i64 0, Value.int IntKind.i64 0] 98)).heap.size := by simp
 have KC : Hid (∀ V, Below w1.heap.size w1 V → (∀ j, j < 4 → V.cell? ⟨w.heap.size, j, none⟩ = some (.int .i64 0)) ∧ (∀ j, V.frozen? ⟨w.heap.size, j, none⟩ = false) ∧ Below w.heap.size w V) := Lib.hid fun V hV => by
  have hb := below_next h1 hV
  refine ⟨fun j hj => (hb.cell (p := ⟨w.heap.size, j, none⟩) hg).trans ?_, fun j => (hb.frozen (p := ⟨w.heap.size, j, none⟩) hg).trans (by simp [go_sem]), below_next KB.out hb⟩
  rcases (show j = 0 ∨ j = 1 ∨ j = 2 ∨ j = 3 by omega) with rfl | rfl | rfl | rfl <;> simp [go_sem]
 clear hg h1 KB
 go_wp2_with fail
 go_loopw [7] (fun i wr => ∃ k : Nat, k ≤ 21 ∧ i = .int .i64 k ∧ Below w1.heap.size w1 wr ∧ fmtOf op = fmtFind op (formatL.drop k)) (fun i _ => 21 - (intOf i).toNat)
 case atStart => exact ⟨0, by omega, rfl, Below.refl _ _, rfl⟩
 case round =>
  obtain ⟨k, hk, rfl, hb, hf⟩ := hrel
  have KW := Lib.hid hb
  have KF := Lib.hid hf
  clear hb hf
  by_cases hlt : k < 21
  ·have hb0 : decide ((k : Int) < 21) = true := decide_eq_true (by omega)
   obtain ⟨a, b, f0, f1, f2, f3, hF⟩ := fmt_row k hlt
   have hidx := hF.idx wr
   have KFm := Lib.hid hF
   clear hF
   have x1 : IntKind.i64.wrap ((k : Int) + 1) = (k : Int) + 1 := IntWalk.i64_in _ (by omega)
   go_upto_region 4 with (fail)
   clear hb0 hidx
   have KW2 := Lib.hid (below_alloc KW.out (Obj.cells #[.int .i64 a, .int .i64 b, .int .i64 f0, .int .i64 f1, .int .i64 f2, .int .i64 f3] 116))
   by_cases h1 : a ≤ op
   ·have d1 : decide (a ≤ op) = true := decide_eq_true h1
    by_cases h2 : op ≤ b
    ·have d2 : decide (op ≤ b) = true := decide_eq_true h2
     have KH := Lib.hid (KF.out.trans (fmt_hit KFm.out ⟨h1, h2⟩))
     clear h1 h2
     obtain ⟨hc, hfz, hbw⟩ := KC.out _ KW2.out
     have c0 := hc 0 (by decide)
     have c1 := hc 1 (by decide)
     have c2 := hc 2 (by decide)
     have c3 := hc 3 (by decide)
     have z0 := hfz 0
     have z1 := hfz 1
     have z2 := hfz 2
     have z3 := hfz 3
     clear hc hfz
     have KBW := Lib.hid hbw
     clear hbw
     go_wp2_with fail
     exact bodyPost_ret (v := .tuple #[.agg #[.int .i64 f0, .int .i64 f1, .int .i64 f2, .int .i64 f3], .bool true]) (by simp [results, Tryz.results62, go_sem, c0, c1, c2, c3]) rfl (HR.out _ _ ⟨.inl ⟨f0, f1, f2, f3, KH.out, rfl⟩, ((((KBW.out.setCell (p := ⟨w.heap.size, 0, none⟩) (Nat.le_refl _) _).setCell (p := ⟨w.heap.size, 1, none⟩) (Nat.le_refl _) _).setCell (p := ⟨w.heap.size, 2, none⟩) (Nat.le_refl _) _).setCell (p := ⟨w.heap.size, 3, none⟩) (Nat.le_refl _) _)⟩)
    ·have d2 : decide (op ≤ b) = false := decide_eq_false h2
     have KH := Lib.hid (KF.out.trans (fmt_miss KFm.out (fun h => h2 h.2)))
     clear h1 h2
     go_wp2_with fail
     go_roundw
     case rel => exact ⟨k + 1, by omega, by go_num, KW2.out, KH.out⟩
     case measure => simp [intOf]; omega
   ·have d1 : decide (a ≤ op) = false := decide_eq_false h1
    have KH := Lib.hid (KF.out.trans (fmt_miss KFm.out (fun h => h1 h.1)))
    clear h1
    go_wp2_with fail
    go_roundw
    case rel => exact ⟨k + 1, by omega, by go_num, KW2.out, KH.out⟩
    case measure => simp [intOf]; omega
  ·obtain rfl : k = 21 := by omega
   have hb0 : decide (((21 : Nat) : Int) < 21) = false := by decide
   obtain ⟨hc, hfz, hbw⟩ := KC.out _ KW.out
   have c0 := hc 0 (by decide)
   have c1 := hc 1 (by decide)
   have c2 := hc 2 (by decide)
   have c3 := hc 3 (by decide)
   have z0 := hfz 0
   have z1 := hfz 1
   have z2 := hfz 2
   have z3 := hfz 3
   clear hc hfz
   have KBW := Lib.hid hbw
   clear hbw
   go_wp2_with fail
   exact bodyPost_ret (v := .tuple #[.agg #[.int .i64 0, .int .i64 0, .int .i64 0, .int .i64 0], .bool false]) (by simp [results, Tryz.results62, go_sem, c0, c1, c2, c3]) rfl (HR.out _ _ ⟨.inr ⟨KF.out.trans rfl, rfl⟩, ((((KBW.out.setCell (p := ⟨w.heap.size, 0, none⟩) (Nat.le_refl _) _).setCell (p := ⟨w.heap.size, 1, none⟩) (Nat.le_refl _) _).setCell (p := ⟨w.heap.size, 2, none⟩) (Nat.le_refl _) _).setCell (p := ⟨w.heap.size, 3, none⟩) (Nat.le_refl _) _)⟩)
end Go.Proofs.YtieaicdihingkaaGreat
namespace Go.Proofs.YtieaicdihingkaaGreat
set_option linter.unusedVariables false
set_option linter.unusedSimpArgs false
open Go.RowKit
def widthI (f : Int) : Int := if f = 0 then 0 else if f = 6 ∨ f = 7 then 2 else 1
theorem widthI_bd (f : Int) : 0 ≤ widthI f ∧ widthI f ≤ 2 := by unfold widthI; split <;> (try split) <;> omega
theorem ret_int {k : IntKind} {a b : Int} (h : a = b) : Ending.returned (.int k a) = .returned (.int k b) := by rw [h]
theorem width_any (f : Int) (w : World) : Calls Tryz.prog 63 #[.int .i64 f] w fun e w' => e = .returned (.int .i64 (widthI f)) ∧ w = w' := by
 by_cases h0 : f = 0
 ·subst h0
  go_enter Tryz.func63, Tryz.ntmps63
  go_wp2
  go_ret
  exact ⟨rfl, rfl⟩
 by_cases h6 : f = 6
 ·subst h6
  go_enter Tryz.func63, Tryz.ntmps63
  go_wp2
  go_ret
  exact ⟨rfl, rfl⟩
 by_cases h7 : f = 7
 ·subst h7
  go_enter Tryz.func63, Tryz.ntmps63
  go_wp2
  go_ret
  exact ⟨rfl, rfl⟩
 have b0 : (f == 0) = false := by simpa using h0
 have b6 : (f == 6) = false := by simpa using h6
 have b7 : (f == 7) = false := by simpa using h7
 have e : widthI f = 1 := by unfold widthI; rw [if_neg h0, if_neg (by omega)]
 have E := Lib.hid e
 clear h0 h6 h7 e
 go_enter Tryz.func63, Tryz.ntmps63
 go_wp2
 go_ret
 exact ⟨ret_int E.out.symm, rfl⟩
def wsum (l : List Int) (k : Nat) : Int := ((l.take k).map widthI).sum
def sizeI (op : Int) : Int := match fmtOf op with | none => 0 | some l => 1 + wsum l 4
set_option maxRecDepth 8000 in
set_option maxHeartbeats 4000000 in
theorem size_any (op : Int) (w : World) (h0 : 0 ≤ op) (h1 : op < 256) : Calls Tryz.prog 36 #[.int .u8 op] w fun e w' => e = .returned (.int .i64 (sizeI op)) ∧ Below w.heap.size w w' := by
 have hw : IntKind.i64.wrap op = op := IntWalk.i64_in _ (by omega)
 go_enter Tryz.func36, Tryz.ntmps36
 go_wp2_with fail
 clear hw
 refine (formatOf_any op _ (FmtPost op w) (Lib.hid fun _ _ h => h)).mono ?_
 rintro e w1 ⟨⟨f0, f1, f2, f3, hf, rfl⟩ | ⟨hf, rfl⟩, h1⟩
 ·have KS : Hid (sizeI op = 1 + wsum [f0, f1, f2, f3] 4) := Lib.hid (by unfold sizeI; rw [hf])
  have KB := Lib.hid (below_alloc h1 (Obj.cells #[.int .i64 f0, .int .i64 f1, .int .i64 f2, .int .i64 f3] 98))
  clear h1 hf
  go_wp2_with fail
  generalize w1.alloc (Obj.cells #[.int .i64 f0, .int .i64 f1, .int .i64 f2, .int .i64 f3] 98) = W2 at *
  go_loop [17, 5] (fun i n => ∃ k : Nat, k ≤ 4 ∧ i = .int .i64 k ∧ n = .int .i64 (1 + wsum [f0, f1, f2, f3] k)) (fun i _ => 4 - (intOf i).toNat)
  case atStart => exact ⟨0, by omega, rfl, rfl⟩
  case round =>
   obtain ⟨k, hk, rfl, rfl⟩ := hrel
   have w0 := widthI_bd f0
   have w1 := widthI_bd f1
   have w2 := widthI_bd f2
   have w3 := widthI_bd f3
   rcases (show k = 0 ∨ k = 1 ∨ k = 2 ∨ k = 3 ∨ k = 4 by omega) with rfl | rfl | rfl | rfl | rfl
   ·have hs : wsum [f0, f1, f2, f3] 1 = wsum [f0, f1, f2, f3] 0 + widthI f0 := by simp [wsum, List.take, Int.add_assoc]
    have hb : 0 ≤ wsum [f0, f1, f2, f3] 0 ∧ wsum [f0, f1, f2, f3] 0 ≤ 6 := by first | (simp [wsum, List.take]; done) | (simp [wsum, List.take]; omega)
    have HS := Lib.hid hs
    clear hs
    generalize wsum [f0, f1, f2, f3] 0 = s at *
    have hiA : (Instr.index 98 (.agg #[.int .i64 f0, .int .i64 f1, .int .i64 f2, .int .i64 f3]) (.int .i64 ((0 : Nat) : Int))).run Tryz.prog W2 = .ok (.int .i64 f0) W2 := by kernel_rfl
    have hiB : (Instr.index 98 (.agg #[.int .i64 f0, .int .i64 f1, .int .i64 f2, .int .i64 f3]) (.int .i64 (0 : Int))).run Tryz.prog W2 = .ok (.int .i64 f0) W2 := by kernel_rfl
    have hx : IntKind.i64.wrap (1 + s + widthI f0) = 1 + s + widthI f0 := IntWalk.i64_in _ (by omega)
    go_wp2_with fail
    refine (width_any f0 _).mono ?_
    rintro e w' ⟨rfl, rfl⟩
    go_wp2_with fail
    go_round
    case rel => exact ⟨1, by omega, rfl, by rw [HS.out, Int.add_assoc]⟩
    case measure => simp [intOf]
   ·have hs : wsum [f0, f1, f2, f3] 2 = wsum [f0, f1, f2, f3] 1 + widthI f1 := by simp [wsum, List.take, Int.add_assoc]
    have hb : 0 ≤ wsum [f0, f1, f2, f3] 1 ∧ wsum [f0, f1, f2, f3] 1 ≤ 6 := by first | (simp [wsum, List.take]; done) | (simp [wsum, List.take]; omega)
    have HS := Lib.hid hs
    clear hs
    generalize wsum [f0, f1, f2, f3] 1 = s at *
    have hiA : (Instr.index 98 (.agg #[.int .i64 f0, .int .i64 f1, .int .i64 f2, .int .i64 f3]) (.int .i64 ((1 : Nat) : Int))).run Tryz.prog W2 = .ok (.int .i64 f1) W2 := by kernel_rfl
    have hiB : (Instr.index 98 (.agg #[.int .i64 f0, .int .i64 f1, .int .i64 f2, .int .i64 f3]) (.int .i64 (1 : Int))).run Tryz.prog W2 = .ok (.int .i64 f1) W2 := by kernel_rfl
    have hx : IntKind.i64.wrap (1 + s + widthI f1) = 1 + s + widthI f1 := IntWalk.i64_in _ (by omega)
    go_wp2_with fail
    refine (width_any f1 _).mono ?_
    rintro e w' ⟨rfl, rfl⟩
    go_wp2_with fail
    go_round
    case rel => exact ⟨2, by omega, rfl, by rw [HS.out, Int.add_assoc]⟩
    case measure => simp [intOf]
   ·have hs : wsum [f0, f1, f2, f3] 3 = wsum [f0, f1, f2, f3] 2 + widthI f2 := by simp [wsum, List.take, Int.add_assoc]
    have hb : 0 ≤ wsum [f0, f1, f2, f3] 2 ∧ wsum [f0, f1, f2, f3] 2 ≤ 6 := by first | (simp [wsum, List.take]; done) | (simp [wsum, List.take]; omega)
    have HS := Lib.hid hs
    clear hs
    generalize wsum [f0, f1, f2, f3] 2 = s at *
    have hiA : (Instr.index 98 (.agg #[.int .i64 f0, .int .i64 f1, .int .i64 f2, .int .i64 f3]) (.int .i64 ((2 : Nat) : Int))).run Tryz.prog W2 = .ok (.int .i64 f2) W2 := by kernel_rfl
    have hiB : (Instr.index 98 (.agg #[.int .i64 f0, .int .i64 f1, .int .i64 f2, .int .i64 f3]) (.int .i64 (2 : Int))).run Tryz.prog W2 = .ok (.int .i64 f2) W2 := by kernel_rfl
    have hx : IntKind.i64.wrap (1 + s + widthI f2) = 1 + s + widthI f2 := IntWalk.i64_in _ (by omega)
    go_wp2_with fail
    refine (width_any f2 _).mono ?_
    rintro e w' ⟨rfl, rfl⟩
    go_wp2_with fail
    go_round
    case rel => exact ⟨3, by omega, rfl, by rw [HS.out, Int.add_assoc]⟩
    case measure => simp [intOf]
   ·have hs : wsum [f0, f1, f2, f3] 4 = wsum [f0, f1, f2, f3] 3 + widthI f3 := by simp [wsum, List.take, Int.add_assoc]
    have hb : 0 ≤ wsum [f0, f1, f2, f3] 3 ∧ wsum [f0, f1, f2, f3] 3 ≤ 6 := by first | (simp [wsum, List.take]; done) | (simp [wsum, List.take]; omega)
    have HS := Lib.hid hs
    clear hs
    generalize wsum [f0, f1, f2, f3] 3 = s at *
    have hiA : (Instr.index 98 (.agg #[.int .i64 f0, .int .i64 f1, .int .i64 f2, .int .i64 f3]) (.int .i64 ((3 : Nat) : Int))).run Tryz.prog W2 = .ok (.int .i64 f3) W2 := by kernel_rfl
    have hiB : (Instr.index 98 (.agg #[.int .i64 f0, .int .i64 f1, .int .i64 f2, .int .i64 f3]) (.int .i64 (3 : Int))).run Tryz.prog W2 = .ok (.int .i64 f3) W2 := by kernel_rfl
    have hx : IntKind.i64.wrap (1 + s + widthI f3) = 1 + s + widthI f3 := IntWalk.i64_in _ (by omega)
    go_wp2_with fail
    refine (width_any f3 _).mono ?_
    rintro e w' ⟨rfl, rfl⟩
    go_wp2_with fail
    go_round
    case rel => exact ⟨4, by omega, rfl, by rw [HS.out, Int.add_assoc]⟩
    case measure => simp [intOf]
   ·go_wp2_with fail
    go_ret
    exact ⟨ret_int KS.out.symm, KB.out⟩
 ·have KS : Hid (sizeI op = 0) := Lib.hid (by unfold sizeI; rw [hf])
  have KB := Lib.hid (below_alloc h1 (Obj.cells #[.int .i64 0, .int .i64 0, .int .i64 0, .int .i64 0] 98))
  clear h1 hf
  go_wp2_with fail
  go_ret
  exact ⟨ret_int KS.out.symm, KB.out⟩
end Go.Proofs.YtieaicdihingkaaGreat
namespace Go.Proofs.YtieaicdihingkaaGreat
set_option linter.unusedVariables false
set_option linter.unusedSimpArgs false
open Go.RowKit
def byteI (s : ByteArray) (j : Nat) : Int := ((s.data.toList[j]?.getD 0).toNat : Int)
theorem byteI_bd (s : ByteArray) (j : Nat) : 0 ≤ byteI s j ∧ byteI s j < 256 := by
 unfold byteI; have := (s.data.toList[j]?.getD 0).toNat_lt; omega
theorem byteI_at (s : ByteArray) (k : Nat) (h : k < s.size) : ((s[k]).toNat : Int) = byteI s k := by
 unfold byteI
 have : s.data.toList[k]? = some (s[k]) := by
  rw [List.getElem?_eq_getElem (by simpa using h)]
  rfl
 rw [this]; rfl
theorem next_any (a b : Addr) (n : Nat) (s : ByteArray) (w : World) (ha : w.cell? a = some (.int .i64 (n : Int))) (hf : w.frozen? a = false) (hb : w.cell? b = some (.string s)) (hn : n < s.size) (hz : s.size ≤ 9223372036854775806) :
  Calls Tryz.prog 87 #[.pointer (some a), .pointer (some b)] w fun e w' => e = .returned (.int .u8 (byteI s n)) ∧ w' = w.setCell a (.int .i64 ((n : Int) + 1)) := by
 have hne : a ≠ b := fun e => by subst e; rw [ha] at hb; cases hb
 have x1 : IntKind.i64.wrap ((n : Int) + 1) = (n : Int) + 1 := IntWalk.i64_in _ (by omega)
 have hA : (w.setCell a (.int .i64 ((n : Int) + 1))).cell? a = some (.int .i64 ((n : Int) + 1)) := World.cell?_setCell_same _ _ _ ha
 have hB : (w.setCell a (.int .i64 ((n : Int) + 1))).cell? b = some (.string s) := (World.cell?_setCell_other _ _ _ _ hne).trans hb
 have hx := byteI_at s n hn
 have hi : (n : Int) < (s.size : Int) := by omega
 have h0 : (0 : Int) ≤ (n : Int) := by omega
 clear hb hne
 go_enter Tryz.func87, Tryz.ntmps87
 go_wp2
 go_ret
 exact ⟨rfl, rfl⟩
theorem or_bytes (a b : Int) (a0 : 0 ≤ a) (a1 : a < 256) (b0 : 0 ≤ b) (b1 : b < 256) : bits .or .u16 a (b * 256) = a + b * 256 := by
 rw [u16_or a (b * 256) a0 (by omega) (by omega) (by omega), Nat.or_comm, nat_join 8 _ _ (by simp only [Nat.reducePow]; omega) (by simp only [Nat.reducePow]; omega)]
 omega
theorem word_any (a b c : Addr) (n : Nat) (s : ByteArray) (w : World) (hc : w.cell? c = some (.func (.func 87) #[] #[.pointer (some a), .pointer (some b)])) (ha : w.cell? a = some (.int .i64 (n : Int))) (hf : w.frozen? a = false) (hb : w.cell? b = some (.string s)) (hn : n + 1 < s.size) (hz : s.size ≤ 9223372036854775806) :
  Calls Tryz.prog 88 #[.pointer (some c)] w fun e w' => e = .returned (.int .u16 (byteI s n + byteI s (n + 1) * 256)) ∧ w' = (w.setCell a (.int .i64 ((n : Int) + 1))).setCell a (.int .i64 (((n + 1 : Nat) : Int) + 1)) := by
 have hne : a ≠ b := fun e => by subst e; rw [ha] at hb; cases hb
 have hnc : a ≠ c := fun e => by subst e; rw [ha] at hc; cases hc
 have b0 := byteI_bd s n
 have b1 := byteI_bd s (n + 1)
 have HO := Lib.hid (or_bytes (byteI s n) (byteI s (n + 1)) b0.1 b0.2 b1.1 b1.2)
 have hA : (w.setCell a (.int .i64 ((n : Int) + 1))).cell? a = some (.int .i64 ((n : Int) + 1)) := World.cell?_setCell_same _ _ _ ha
 have hB : (w.setCell a (.int .i64 ((n : Int) + 1))).cell? b = some (.string s) := (World.cell?_setCell_other _ _ _ _ hne).trans hb
 have hC : (w.setCell a (.int .i64 ((n : Int) + 1))).cell? c = some (.func (.func 87) #[] #[.pointer (some a), .pointer (some b)]) := (World.cell?_setCell_other _ _ _ _ hnc).trans hc
 have hF : (w.setCell a (.int .i64 ((n : Int) + 1))).frozen? a = false := by simpa using hf
 have H1 := Lib.hid (next_any a b n s w ha hf hb (by omega) hz)
 have H2 := Lib.hid (next_any a b (n + 1) s (w.setCell a (.int .i64 ((n : Int) + 1))) (by rw [hA]; push_cast; rfl) hF hB hn hz)
 clear hne hnc ha hb hA hB hF hf
 generalize byteI s n = x at *
 generalize byteI s (n + 1) = y at *
 obtain ⟨x0, x1⟩ := b0
 obtain ⟨y0, y1⟩ := b1
 go_enter Tryz.func88, Tryz.ntmps88
 go_wp2_with fail
 refine H1.out.mono ?_
 rintro e w1 ⟨rfl, rfl⟩
 clear hc
 go_wp2_with fail
 refine H2.out.mono ?_
 rintro e w2 ⟨rfl, rfl⟩
 go_wp2_with fail
 go_ret
 exact ⟨ret_int HO.out, rfl⟩
def extI (c : Int) : Int := if c < 128 then c else c + 65280
theorem extI_bd (c : Int) (h0 : 0 ≤ c) (h1 : c < 256) : 0 ≤ extI c ∧ extI c < 65536 := by unfold extI; split <;> omega
theorem ext_all : ∀ k : Fin 256, IntKind.u16.wrap (IntKind.i16.wrap (IntKind.i8.wrap (k.val : Int))) = extI (k.val : Int) := by decide +kernel
theorem extend_any (c : Int) (w : World) (h0 : 0 ≤ c) (h1 : c < 256) : Calls Tryz.prog 89 #[.int .u8 c] w fun e w' => e = .returned (.int .u16 (extI c)) ∧ w = w' := by
 have hx : IntKind.u16.wrap (IntKind.i16.wrap (IntKind.i8.wrap c)) = extI c := by
  have := ext_all ⟨c.toNat, by omega⟩
  rwa [show ((⟨c.toNat, by omega⟩ : Fin 256).val : Int) = c from Int.toNat_of_nonneg h0] at this
 have HX := Lib.hid hx
 clear hx
 go_enter Tryz.func89, Tryz.ntmps89
 go_wp2
 go_ret
 exact ⟨ret_int HX.out, rfl⟩
end Go.Proofs.YtieaicdihingkaaGreat
