/- The contracts of Shift and of the reference's Shift. -/
import Derived.Test.YtieaicdihingkaaGreatWA
import Derived.Lib.Hide
import Derived.MapKept
namespace Go.Proofs.YtieaicdihingkaaGreat
set_option linter.unusedVariables false
open Go.RowKit
theorem heap_new (W : World) (o : Obj) : (W.alloc o).heap[W.heap.size]? = some o := by
 show (W.heap.push o)[W.heap.size]? = _
 simp
theorem run_put_new {P : Program} {t kt et : TypeId} (ht : P.underlying t = some (.map kt et)) (hk : P.underlying kt = some (.int .i64)) (W : World) (es : Array MapEntry) (c : Nat) (k : Int) (v : Value) (n : Nat) (hn : n = W.heap.size)
  (hf : Instr.findNow (.int .i64) (.int .i64 k) es.toList 0 = some none) :
  (Instr.mapUpdate t (.map (some n)) (.int .i64 k) v).run P (W.alloc (.map es c)) =
   .ok () (W.alloc (.map (es.push { key := .int .i64 k, val := v, born := c }) (c + 1))) := by
 subst hn
 have hb := heap_new W (.map es c)
 have hc : ∀ w, (Instr.checkKey false 10000 kt (.int .i64 k)).run P w = .ok () w := fun w => MapKept.run_checkKey (k := .int .i64 k) hk (by simp [MapKept.IsKey]) false 9999
 simp [Instr.mapUpdate, run_underlying ht, MapKept.run_getObj_map hb, hc, MapKept.run_findKey hk hf, MapKept.run_setObj_map _ hb, Result.andThen]
 simp [World.alloc, Array.push, Array.setIfInBounds]
theorem run_get_some {P : Program} {t kt et : TypeId} (ht : P.underlying t = some (.map kt et)) (hk : P.underlying kt = some (.int .i64)) (W : World) (es : Array MapEntry) (c : Nat) (k : Int) (v : Value) (n i : Nat) (hn : n = W.heap.size)
  (hf : Instr.findNow (.int .i64) (.int .i64 k) es.toList 0 = some (some (i, v))) :
  (Instr.lookup t (.map (some n)) (.int .i64 k) true).run P (W.alloc (.map es c)) = .ok (.tuple #[v, .bool true]) (W.alloc (.map es c)) := by
 subst hn
 have hb := heap_new W (.map es c)
 have hc : ∀ w b, (Instr.checkKey b 10000 kt (.int .i64 k)).run P w = .ok () w := fun w b => MapKept.run_checkKey (k := .int .i64 k) hk (by simp [MapKept.IsKey]) b 9999
 simp [Instr.lookup, run_underlying ht, MapKept.run_getObj_map hb, hc, MapKept.run_findKey hk hf, Result.andThen]
theorem run_get_none {P : Program} {t kt et : TypeId} (ht : P.underlying t = some (.map kt et)) (hk : P.underlying kt = some (.int .i64)) (W : World) (es : Array MapEntry) (c : Nat) (k : Int) (z : Value) (n : Nat) (hn : n = W.heap.size)
  (hz : ∀ w, (zeroValue et).run P w = .ok z w)
  (hf : Instr.findNow (.int .i64) (.int .i64 k) es.toList 0 = some none) :
  (Instr.lookup t (.map (some n)) (.int .i64 k) true).run P (W.alloc (.map es c)) = .ok (.tuple #[z, .bool false]) (W.alloc (.map es c)) := by
 subst hn
 have hb := heap_new W (.map es c)
 have hc : ∀ w b, (Instr.checkKey b 10000 kt (.int .i64 k)).run P w = .ok () w := fun w b => MapKept.run_checkKey (k := .int .i64 k) hk (by simp [MapKept.IsKey]) b 9999
 simp [Instr.lookup, run_underlying ht, MapKept.run_getObj_map hb, hc, MapKept.run_findKey hk hf, Result.andThen, hz]

/-- A shift by j bits. -/
def shN (k a : Int) (j : Nat) : Int :=
 if k = 0 then a * 2 ^ j % 65536 else if k = 1 then a / 2 ^ j else if k = 2 then sgI a / 2 ^ j % 65536 else 0
theorem sgI_wrap (a : Int) (a0 : 0 ≤ a) (a1 : a < 65536) : IntKind.i16.wrap a = sgI a := by
 simp only [IntKind.wrap, IntKind.bits, IntKind.signed, sgI]; simp; split <;> omega
theorem below3 (w : World) (a b c : Obj) : Below w.heap.size w (((w.alloc a).alloc b).alloc c) :=
 (((Below.refl _ _).alloc (Nat.le_refl _) _).alloc (by rw [World.size_alloc]; omega) _).alloc (by rw [World.size_alloc, World.size_alloc]; omega) _
theorem zeroF (w : World) : (zeroValue 87).run Tryz.prog w = .ok .nilFunc w := by kernel_rfl
set_option maxHeartbeats 1000000 in
theorem shift_any (k a n : Int) (w : World) (k0 : -9223372036854775808 ≤ k) (k1 : k ≤ 9223372036854775807) (a0 : 0 ≤ a) (a1 : a < 65536) (n0 : 0 ≤ n) (n1 : n < 65536) :
  Calls Tryz.prog 95 #[.int .i64 k, .int .u16 a, .int .u16 n] w fun e w' => e = .returned (.int .u16 (shN k a (n % 16).toNat)) ∧ Below w.heap.size w w' := by
 have m1 : n.tmod 16 = n % 16 := Int.tmod_eq_emod_of_nonneg n0
 have hmm := @run_makeMap Tryz.prog
 have hp0 := fun v => run_put_new (P := Tryz.prog) Tryz.underlying135 Tryz.underlying3 ((w.alloc (Obj.cells #[Value.int IntKind.u16 a] 22)).alloc (Obj.cells #[Value.int IntKind.u16 (n % 16)] 22)) #[] 0 0 v (w.heap.size + 1 + 1) (by simp) rfl
 have hp1 := fun u v => run_put_new (P := Tryz.prog) Tryz.underlying135 Tryz.underlying3 ((w.alloc (Obj.cells #[Value.int IntKind.u16 a] 22)).alloc (Obj.cells #[Value.int IntKind.u16 (n % 16)] 22)) #[{ key := .int .i64 0, val := u, born := 0 }] 1 1 v (w.heap.size + 1 + 1) (by simp) rfl
 have hp2 := fun u x v => run_put_new (P := Tryz.prog) Tryz.underlying135 Tryz.underlying3 ((w.alloc (Obj.cells #[Value.int IntKind.u16 a] 22)).alloc (Obj.cells #[Value.int IntKind.u16 (n % 16)] 22)) #[{ key := .int .i64 0, val := u, born := 0 }, { key := .int .i64 1, val := x, born := 1 }] 2 2 v (w.heap.size + 1 + 1) (by simp) rfl
 simp only [List.push_toArray, List.nil_append, List.cons_append, Nat.reduceAdd] at hp0 hp1 hp2
 rcases (show k = 0 ∨ k = 1 ∨ k = 2 ∨ (k < 0 ∨ 2 < k) by omega) with rfl | rfl | rfl | h
 ·have hg := fun u x v => run_get_some (P := Tryz.prog) Tryz.underlying135 Tryz.underlying3 ((w.alloc (Obj.cells #[Value.int IntKind.u16 a] 22)).alloc (Obj.cells #[Value.int IntKind.u16 (n % 16)] 22)) #[{ key := .int .i64 0, val := u, born := 0 }, { key := .int .i64 1, val := x, born := 1 }, { key := .int .i64 2, val := v, born := 2 }] 3 0 u (w.heap.size + 1 + 1) 0 (by simp) rfl
  go_enter Tryz.func95, Tryz.ntmps95
  go_wp2
  go_ret
  refine ⟨wret_int ?_, below3 _ _ _ _⟩
  show IntKind.u16.wrap (a * 2 ^ (n % 16).toNat) = _
  rw [IntKind.wrap_u16]; rfl
 ·have hg := fun u x v => run_get_some (P := Tryz.prog) Tryz.underlying135 Tryz.underlying3 ((w.alloc (Obj.cells #[Value.int IntKind.u16 a] 22)).alloc (Obj.cells #[Value.int IntKind.u16 (n % 16)] 22)) #[{ key := .int .i64 0, val := u, born := 0 }, { key := .int .i64 1, val := x, born := 1 }, { key := .int .i64 2, val := v, born := 2 }] 3 1 x (w.heap.size + 1 + 1) 1 (by simp) rfl
  go_enter Tryz.func95, Tryz.ntmps95
  go_wp2
  go_ret
  refine ⟨wret_int ?_, below3 _ _ _ _⟩
  rfl
 ·have hg := fun u x v => run_get_some (P := Tryz.prog) Tryz.underlying135 Tryz.underlying3 ((w.alloc (Obj.cells #[Value.int IntKind.u16 a] 22)).alloc (Obj.cells #[Value.int IntKind.u16 (n % 16)] 22)) #[{ key := .int .i64 0, val := u, born := 0 }, { key := .int .i64 1, val := x, born := 1 }, { key := .int .i64 2, val := v, born := 2 }] 3 2 v (w.heap.size + 1 + 1) 2 (by simp) rfl
  go_enter Tryz.func95, Tryz.ntmps95
  go_wp2
  go_ret
  refine ⟨wret_int ?_, below3 _ _ _ _⟩
  show IntKind.u16.wrap (IntKind.i16.wrap a / 2 ^ (n % 16).toNat) = _
  rw [IntKind.wrap_u16, sgI_wrap a a0 a1]; rfl
 ·have hg := fun u x v => run_get_none (P := Tryz.prog) Tryz.underlying135 Tryz.underlying3 ((w.alloc (Obj.cells #[Value.int IntKind.u16 a] 22)).alloc (Obj.cells #[Value.int IntKind.u16 (n % 16)] 22)) #[{ key := .int .i64 0, val := u, born := 0 }, { key := .int .i64 1, val := x, born := 1 }, { key := .int .i64 2, val := v, born := 2 }] 3 k .nilFunc (w.heap.size + 1 + 1) (by simp) zeroF
   (by
    have e0 : (k == 0) = false := by simp; omega
    have e1 : (k == 1) = false := by simp; omega
    have e2 : (k == 2) = false := by simp; omega
    simp [Instr.findNow, Instr.sameNow, e0, e1, e2])
  go_enter Tryz.func95, Tryz.ntmps95
  go_wp2
  go_ret
  refine ⟨wret_int ?_, below3 _ _ _ _⟩
  unfold shN; rw [if_neg (by omega), if_neg (by omega), if_neg (by omega)]

end Go.Proofs.YtieaicdihingkaaGreat
