/- check.caught: a function is called, and the failure with which it ends is its result. check.caught, in the evaluator's words. -/
import Derived.Test.YtmhjnndhphidfaaGreatA8
import Derived.Test.YtmhjnndhphidfaaGreatB1
import Derived.Test.YtmhjnndhphidfaaGreatProg
import Derived.KernelRfl
import Derived.RegionTactic
import Derived.ChangeAlike
import Derived.Defers
import Derived.Recover
import Derived.WalkLawsBesides
import Derived.BigRegion
namespace Go.Ab
set_option maxRecDepth 8000
set_option linter.unusedSimpArgs false
set_option linter.unusedVariables false
open Go.Proofs
/-- check.caught. -/
noncomputable def ext36 (call : Cll) (args : List AV) (M : Mem) : Option (Rs × Mem) := match args with
  | [f] => ob (asFn f) fun t => ob (call t.1 (app t.2.1 t.2.2) M) fun r => match r.1 with
    | .ret _ => some (.ret (.p (.agg [.int .i64 0, .str []])), r.2)
    | .pan (.iface t (.p (.agg [.int .i64 k, .str s]))) => bf (Nat.beq t 91) (some (.ret (.p (.agg [.int .i64 k, .str s])), r.2)) none
    | _ => none
  | _ => none
/-- The elements have s cells, of which the first one is a string; there are not too many. -/
noncomputable def shapeL (s : Nat) (L : List (List PV)) : Bool :=
  bf (Nat.ble (len L) 1000000000000) (allL (fun e => bf (Nat.beq (len e) s) (List.casesOn (motive := fun _ => Bool) e false (fun v _ => PV.casesOn (motive_1 := fun _ => Bool) v (fun _ => false) (fun _ _ => false) (fun _ => true) (fun _ => false) (fun _ => false))) false) L) false
/-- check.tablesOf. -/
noncomputable def ext35 (args : List AV) (M : Mem) : Option (Rs × Mem) := match args with
  | [.p (.agg [.fz A, .fz B, .fz C])] => bf (shapeL 3 A) (bf (shapeL 8 B) (bf (shapeL 10 C)
      (ob (insL A (backTo (len A) (len A)) []) fun a => ob (insL B (backTo (len B) (len B)) []) fun b => ob (insL C (backTo (len C) (len C)) []) fun c =>
        some (.ret (.ptr (M.next + 4) 0 0), ⟨M.next + 5, (M.next + 4, .cells [[.p (.fz A), .p (.fz B), .p (.fz C), .map M.next, .map (M.next + 1), .map (M.next + 2), .map (M.next + 3)]]) ::
          (M.next, .pmap a) :: (M.next + 1, .pmap b) :: (M.next + 2, .pmap c) :: (M.next + 3, .pmap []) :: M.objs⟩)) none) none) none
  | _ => none
noncomputable def keysA (objs : Objs) (m : AV) : Option (List PV) := mapCases m (fun id => ob (getO id objs) fun o => asMap o (fun l => some (mapL Prod.fst l)) (fun l => some (mapL Prod.fst l))) (some [])
/-- slices.AppendSeq of maps.Keys, where there is at most one key. -/
noncomputable def ext91 (args : List AV) (M : Mem) : Option (Rs × Mem) := match args with
  | [s, .fn f [] [b]] => bf (Nat.beq f 156) (ob (lenS s) fun _ => ob (loadA M.objs none b) fun m => ob (keysA M.objs m) fun ks => match ks with
    | [] => some (.ret s, M)
    | [.str k] => ob (evE (.append 1 (.res 0) (.res 1)) [] [s, .lit [[.str k]]] M) fun r => some (.ret r.1, r.2)
    | _ => none) none
  | _ => none
noncomputable def asCnt (v : AV) : Option Nat := match v with
  | .p (.int .i64 (.ofNat n)) => some n
  | _ => none
noncomputable def lkA (z m k : AV) (objs : Objs) : Option AV := evP (.lookup 2 z false (.res 0) (.res 1)) [] [m, k] objs
/-- The count is kept, and given back. -/
noncomputable def endA (kid : Nat) (a : AV) (s : List Nat) (q : Nat) (M : Mem) : Option (AV × Mem) :=
  ob (loadA M.objs none a) fun known => mapCases known (fun kid' => bf (Nat.beq kid' kid) (ob (evE (.mapSet 2 (.res 0) (.res 1) (.res 2)) [] [.map kid', .p (.str s), .p (.int .i64 (.ofNat (q + 1)))] M) fun r =>
    ob (loadA r.2.objs none a) fun known => mapCases known (fun kid' => ob (lkA (.p (.int .i64 0)) (.map kid') (.p (.str s)) r.2.objs) fun v => ob (asCnt v) fun v => some (.p (.int .i64 (.ofNat v)), r.2)) none) none) none
/-- (*tables).calls$4, where every function calls at most one. -/
noncomputable def depthStep (ih : List AV → Mem → Option (AV × Mem)) (args : List AV) (M : Mem) : Option (AV × Mem) := match args with
  | [.p (.str s), a, b, d] => ob (loadA M.objs none a) fun known => ob (loadA M.objs none b) fun graph => ob (loadA M.objs none d) fun f =>
    mapCases known (fun kid => ob (lkA (.p (.int .i64 0)) (.map kid) (.p (.str s)) M.objs) fun v => ob (asCnt v) fun n => bf (Nat.beq n 0)
      (mapCases graph (fun gid => ob (lkA .nilm (.map gid) (.p (.str s)) M.objs) fun g => ob (keysA M.objs g) fun ks => match ks with
        | [] => endA kid a s 0 M
        | [.str k] => mapCases g (fun gm => bf (Nat.beq gm kid) none (match f with
          | .fn f [] [a', b', d'] => bf (Nat.beq f 103) (ob (loadA M.objs none a') fun known' => mapCases known' (fun kid' => bf (Nat.beq kid' kid) (ob (ih [.p (.str k), a', b', d'] M) fun r => ob (asCnt r.1) fun q => bf (Nat.blt q 1000000000) (endA kid a s q r.2) none) none) none) none
          | _ => none)) none
        | _ => none) none) (some (.p (.int .i64 (.ofNat n)), M))) none
  | _ => none
noncomputable def depthA (n : Nat) : List AV → Mem → Option (AV × Mem) := Nat.rec (motive := fun _ => List AV → Mem → Option (AV × Mem)) (fun _ _ => none) (fun _ ih => depthStep ih) n
noncomputable def ext93 (args : List AV) (M : Mem) : Option (Rs × Mem) := ob (depthA 64 args M) fun r => some (.ret r.1, r.2)
noncomputable def extF (f : Nat) : Option (Cll → List AV → Mem → Option (Rs × Mem)) :=
  bf (Nat.beq f 36) (some ext36) (bf (Nat.beq f 35) (some fun _ => ext35) (bf (Nat.beq f 101) (some fun _ => ext91) (bf (Nat.beq f 103) (some fun _ => ext93) none)))
noncomputable def modeK (f : Nat) : Nat := bf (Nat.beq f 61) 1 0
/-- Functions that run while a program is executed. -/
def plainK : List Nat := [17,45,46,47,107,108,109,159,163,164,166,167,168,169,170,209,213,214,215,216,217,218,219,220,221,262,266,267,268,269,270,271,272,276,277,280,302,304,306,307,308,310,311,312,313,315,316,317,318,319,320,321,323,324,325,326,327,328]
noncomputable def EK : Env where
  fn f := Option.rec (motive := fun _ => Option CFunc) none (fun fn => cFunc Tryz.prog (modeK f) fn) (Tryz.prog.funcs[f]?)
  how me f := bf (bf (memN f plainK) (memN me plainK) false) 3 (bf (memN f [305, 298, 284, 16, 13]) 2 (bf (memN f [124, 60, 99, 101]) 1 0))
  frz me f := nt (memN f [99, 101, 124, 60, 31, 33, 73, 15, 11])
  ext := extF
noncomputable def isT (x : Option (Rs × Mem)) : Bool := match x with
  | some (.ret (.p (.bool b)), _) => b
  | _ => false
end Go.Ab
namespace Go.Ab
set_option maxRecDepth 8000
open Go.Proofs Go.RowKit
set_option linter.unusedVariables false
set_option linter.unusedSimpArgs false
theorem wpS_hide {P : Program} {Q : Exit → Act → List Frame → World → Prop} {a : Act} {cs : List Frame} {w : World} {c : Code}
    (h : ∀ R : Exit → Act → World → Prop, Hid (∀ e a' w', Q e a' cs w' → R e a' w') → c.wp P R a w) : c.wpS P Q a cs w := wpS_of_wp (h _ (fun _ _ _ h => h))
def putF (K : Nat) (k : Int) (s : ByteArray) (W : World) : World := (W.setCell ⟨K, 0, none⟩ (.int .i64 k)).setCell ⟨K, 1, none⟩ (.string s)
theorem c73_idle (K : Addr) (w : World) :
    CallsD Tryz.prog 83 #[.pointer (some K)] .returning w fun e u' w' => e = .returned (.tuple #[]) ∧ u' = .returning ∧ w' = w := by
  refine callsD_of_wpS Tryz.func83 rfl fun c₀ cs hu => ?_
  simp only [Tryz.ntmps83, List.size_toArray, List.length_cons, List.length_nil, Nat.reduceAdd, Nat.reduceSub, Array.replicate_succ, Array.replicate_zero, List.push_toArray, List.append_toArray, List.nil_append, List.cons_append]
  apply wpS_seq
  apply wpS_region
  simp [wpOpsS, go_sem, recoverD, hu, Exit.thenS]
  refine wpS_hide fun R HR => ?_
  go_wp2
  refine HR.out _ _ _ ?_
  cases c₀
  simp_all [bodyPostS, results, Tryz.results83, Exit.thenS]
theorem c73_trap (K : Nat) (w : World) (k : Int) (s : ByteArray) (older : List PanicEntry) (z0 z1 : Value) (hK : w.heap[K]? = some (.cells #[z0, z1] 91 (0, 0))) :
    CallsD Tryz.prog 83 #[.pointer (some ⟨K, 0, none⟩)] (.panicking ({ v := .iface 91 (.agg #[.int .i64 k, .string s]), recovered := false } :: older)) w fun e u' w' =>
      e = .returned (.tuple #[]) ∧ u' = .panicking ({ v := .iface 91 (.agg #[.int .i64 k, .string s]), recovered := true } :: older) ∧ w' = (putF K k s w).alloc (.cells #[.int .i64 k, .string s] 91) := by
  have hta : ∀ w : World, (Instr.typeAssert (Value.iface 91 (Value.agg #[Value.int IntKind.i64 k, Value.string s])) 20 91 true).run Tryz.prog w = .ok (.tuple #[Value.agg #[Value.int IntKind.i64 k, Value.string s], .bool true]) w := fun _ => by kernel_rfl
  have hlt : K < w.heap.size := (Array.getElem?_eq_some_iff.1 hK).1
  have hK1 : (w.alloc (.cells #[.int .i64 k, .string s] 91)).heap[K]? = some (.cells #[z0, z1] 91 (0, 0)) := by
    simp [World.alloc, -World.alloc_eq, Array.getElem?_push, hK, Nat.ne_of_lt hlt]
  refine callsD_of_wpS Tryz.func83 rfl fun c₀ cs hu => ?_
  simp only [Tryz.ntmps83, List.size_toArray, List.length_cons, List.length_nil, Nat.reduceAdd, Nat.reduceSub, Array.replicate_succ, Array.replicate_zero, List.push_toArray, List.append_toArray, List.nil_append, List.cons_append]
  apply wpS_seq
  apply wpS_region
  simp [wpOpsS, go_sem, recoverD, hu, Exit.thenS]
  refine wpS_hide fun R HR => ?_
  have c0 : w.cell? ⟨K, 0, none⟩ = some z0 := Lib.cell_of_heap hK 0
  have c1 : w.cell? ⟨K, 1, none⟩ = some z1 := Lib.cell_of_heap hK 1
  have f0 : w.frozen? ⟨K, 0, none⟩ = false := by simp [World.frozen?, hK]
  have f1 : w.frozen? ⟨K, 1, none⟩ = false := by simp [World.frozen?, hK]
  have hne : ¬ K = w.heap.size := by omega
  have hne' : ¬ w.heap.size = K := by omega
  go_wp2
  refine HR.out _ _ _ ?_
  cases c₀
  simp_all [bodyPostS, results, Tryz.results83, Exit.thenS, putF]
theorem setBlk {V : World} {B k : Nat} {c : Array Value} {t : TypeId} {f : Nat × Nat} {v : Value} (h : V.heap[B]? = some (.cells c t f)) : (V.setCell ⟨B, k, none⟩ v).heap[B]? = some (.cells (c.setIfInBounds k v) t f) := by
 unfold World.setCell
 simp only [Array.getElem?_modify, h]
 simp
theorem putF_at {K : Nat} {k : Int} {s : ByteArray} {W : World} {z0 z1 : Value} (h : W.heap[K]? = some (.cells #[z0, z1] 91 (0, 0))) : (putF K k s W).heap[K]? = some (.cells #[.int .i64 k, .string s] 91 (0, 0)) := by
  have h1 := setBlk (k := 0) (v := .int .i64 k) h
  have h2 := setBlk (k := 1) (v := .string s) h1
  exact h2
theorem caught_any {x : Value} {w : World} {R : Ending → World → Prop} {g : Nat} {ys zs : List Value} (hx : x = .func (.func g) ⟨ys⟩ ⟨zs⟩) (hk : Known Tryz.prog g)
    (hC : Calls Tryz.prog g ⟨ys ++ ([] ++ zs)⟩ (w.alloc (.cells #[.int .i64 0, .string ⟨#[]⟩] 91)) fun e W => W.heap[w.heap.size]? = some (.cells #[.int .i64 0, .string ⟨#[]⟩] 91 (0, 0)) ∧
      ((∃ v, e = .returned v ∧ R (.returned (.agg #[.int .i64 0, .string ⟨#[]⟩])) (putF w.heap.size 0 ⟨#[]⟩ W)) ∨
        ∃ k s, e = .panicked [{ v := .iface 91 (.agg #[.int .i64 k, .string s]), recovered := false }] ∧ R (.returned (.agg #[.int .i64 k, .string s])) ((putF w.heap.size k s W).alloc (.cells #[.int .i64 k, .string s] 91)))) : Calls Tryz.prog 36 #[x] w R := by
  refine calls_of_wp_defers Tryz.func36 rfl ?_
  simp only [Tryz.ntmps36, List.size_toArray, List.length_cons, List.length_nil, Nat.reduceAdd, Nat.reduceSub, Array.replicate_succ, Array.replicate_zero, List.push_toArray, List.append_toArray, List.nil_append, List.cons_append]
  refine wp_seq (wp_mono (Q := fun e a' w' => e = .normal ∧ a' = ⟨#[x, undef, .pointer (some ⟨w.heap.size, 0, none⟩), undef, undef, undef, undef], []⟩ ∧ w' = w.alloc (.cells #[.int .i64 0, .string ⟨#[]⟩] 91)) ?_ ?_)
  · go_wp2
  rintro e a' w' ⟨rfl, rfl, rfl⟩
  refine wp_seq (wp_mono (Q := fun e a' w' => e = .normal ∧ a' = ⟨#[x, undef, .pointer (some ⟨w.heap.size, 0, none⟩), .func (.func 83) #[] #[.pointer (some ⟨w.heap.size, 0, none⟩)], undef, undef, undef], [{ target := .fn (.func 83) #[.pointer (some ⟨w.heap.size, 0, none⟩)], args := #[] }]⟩ ∧ w' = w.alloc (.cells #[.int .i64 0, .string ⟨#[]⟩] 91)) ?_ ?_)
  · go_wp2
  rintro e a' w' ⟨rfl, rfl, rfl⟩
  refine wp_seq ?_
  refine wp_region_list ?_
  generalize hK : w.heap.size = K at hC ⊢
  generalize w.alloc (.cells #[.int .i64 0, .string ⟨#[]⟩] 91) = w1 at hC ⊢
  show wpList _ _ _ [_, _] _ _
  refine wpList_plain rfl fun N1 hN1 => ?_
  refine hN1 _ _ ?_
  clear hN1 N1
  change wpList _ _ _ [_] (⟨#[x, undef, .pointer (some ⟨K, 0, none⟩), .func (.func 83) #[] #[.pointer (some ⟨K, 0, none⟩)], x, undef, undef], [{ target := .fn (.func 83) #[.pointer (some ⟨K, 0, none⟩)], args := #[] }]⟩ : Act) _
  refine wpList_plain rfl fun N1 hN1 => ?_
  unfold Oper.wp
  rw [run_call (P := Tryz.prog) (a := ⟨#[x, undef, .pointer (some ⟨K, 0, none⟩), .func (.func 83) #[] #[.pointer (some ⟨K, 0, none⟩)], x, undef, undef], [{ target := .fn (.func 83) #[.pointer (some ⟨K, 0, none⟩)], args := #[] }]⟩) (f := .tmp 4) (g := g) (xs := ys) (ys := zs) hx hk]
  refine hC.mono fun e W => ?_
  rintro ⟨hW, ⟨v, rfl, hR⟩ | ⟨k, s, rfl, hR⟩⟩
  · have hlt : K < W.heap.size := (Array.getElem?_eq_some_iff.1 hW).1
    have c0 : W.cell? ⟨K, 0, none⟩ = some (.int .i64 0) := Lib.cell_of_heap hW 0
    have c1 : W.cell? ⟨K, 1, none⟩ = some (.string ⟨#[]⟩) := Lib.cell_of_heap hW 1
    have f0 : W.frozen? ⟨K, 0, none⟩ = false := by simp [World.frozen?, hW]
    have f1 : W.frozen? ⟨K, 1, none⟩ = false := by simp [World.frozen?, hW]
    have hp := putF_at (k := 0) (s := ⟨#[]⟩) hW
    refine hN1 _ _ ?_
    show Code.wp _ _ _ _ _
    refine wp_seq (wp_mono (Q := fun e a' w' => e = .normal ∧ a'.tmps[2]?.getD undef = .pointer (some ⟨K, 0, none⟩) ∧ a'.defers = [{ target := .fn (.func 83) #[.pointer (some ⟨K, 0, none⟩)], args := #[] }] ∧ w' = putF K 0 ⟨#[]⟩ W) ?_ ?_)
    · unfold putF
      go_wp2
    rintro e a' w' ⟨rfl, t2, hdf, rfl⟩
    refine wp_ret ?_
    show Leaves _ _ _ _ a'.defers _ _
    rw [hdf]
    refine leaves_cons (f := 83) (args := #[.pointer (some ⟨K, 0, none⟩)]) (by simp) (by simp [go_sem]) ?_
    refine (c73_idle _ _).mono ?_
    rintro e u' w2 ⟨rfl, rfl, rfl⟩
    have q0 : (putF K 0 ⟨#[]⟩ W).cell? ⟨K, 0, none⟩ = some (.int .i64 0) := Lib.cell_of_heap hp 0
    have q1 : (putF K 0 ⟨#[]⟩ W).cell? ⟨K, 1, none⟩ = some (.string ⟨#[]⟩) := Lib.cell_of_heap hp 1
    generalize putF K 0 ⟨#[]⟩ W = W2 at *
    simp [Leaves, settle, results, Tryz.results36, go_sem, t2, q0, q1]
    exact hR
  · show Leaves _ _ _ _ _ _ _
    refine leaves_cons (f := 83) (args := #[.pointer (some ⟨K, 0, none⟩)]) (by simp) (by simp [go_sem]) ?_
    refine (c73_trap K W k s [] _ _ hW).mono ?_
    rintro e u' w2 ⟨rfl, rfl, rfl⟩
    have hp := putF_at (k := k) (s := s) hW
    have hlt : K < (putF K k s W).heap.size := (Array.getElem?_eq_some_iff.1 hp).1
    have hp2 : ((putF K k s W).alloc (.cells #[.int .i64 k, .string s] 91)).heap[K]? = some (.cells #[.int .i64 k, .string s] 91 (0, 0)) := by
      simp [World.alloc, -World.alloc_eq, Array.getElem?_push, hp, Nat.ne_of_lt hlt]
    have q0 := Lib.cell_of_heap hp2 0
    have q1 := Lib.cell_of_heap hp2 1
    generalize (putF K k s W).alloc (.cells #[.int .i64 k, .string s] 91) = W2 at *
    simp at q0 q1
    simp [Leaves, settle, results, Tryz.results36, go_sem, q0, q1]
    exact hR
end Go.Ab
namespace Go.Ab
set_option maxRecDepth 8000
open Go.Proofs Go.RowKit
set_option linter.unusedVariables false
set_option linter.unusedSimpArgs false
theorem ext36_ok {call : Cll} (hcall : CllOk Tryz.prog call) {vs : List AV} {M M' : Mem} {r : Rs} (h : ext36 call vs M = some (r, M')) : RunOk Tryz.prog 36 vs M r M' := by
  intro G w xs hS hRL
  unfold ext36 at h
  split at h <;> try (cases h; done)
  rename_i f
  obtain ⟨⟨g, a, b⟩, hf, h⟩ := ob_some.1 h
  obtain ⟨⟨r1, M1⟩, hr, h⟩ := ob_some.1 h
  have hf := asFn_some hf
  subst hf
  rw [app_eq] at hr
  obtain ⟨x, rfl⟩ : ∃ x, xs = [x] := by
    have := hRL.1
    match xs, this with
    | [x], _ => exact ⟨x, rfl⟩
  have hx := hRL.2 0 _ x rfl rfl
  obtain ⟨ys, zs, hxe, hy, hz⟩ := hx.fn
  have hE := alloc_ev w (.cells #[.int .i64 0, .string ⟨#[]⟩] 91)
  obtain ⟨hS1, hR1⟩ := hS.box hE (X' := fun b => G.X b ∨ b = w.heap.size) (fun b hb => by
    rcases hb with hb | rfl
    · exact Nat.lt_of_lt_of_le (hS.ltX b hb) hE.size
    · simp [World.alloc, -World.alloc_eq]) (fun b hb hlt => hb.resolve_right (by omega)) fun b hb => .inl hb
  have hargs : RL (w.alloc (.cells #[.int .i64 0, .string ⟨#[]⟩] 91)) (Own M.objs ⟨G.f, fun b => G.X b ∨ b = w.heap.size⟩) ⟨G.f, fun b => G.X b ∨ b = w.heap.size⟩ (Lt M.next) (a ++ b) (ys ++ ([] ++ zs)) :=
    ⟨(hy.append hz).1, fun i v x h1 h2 => hR1 v x ((hy.append hz).2 i v x h1 h2)⟩
  obtain ⟨hk, hC⟩ := hcall.ok g (a ++ b) M r1 M1 hr (Lt M.next) _ _ _ hS1 Lt.free hargs
  have hsz : (w.alloc (.cells #[.int .i64 0, .string ⟨#[]⟩] 91)).heap.size = w.heap.size + 1 := by simp [World.alloc, -World.alloc_eq]
  refine ⟨⟨_, Tryz.func36, by kernel_rfl, by kernel_rfl⟩, caught_any hxe hk (hC.mono fun e W => ?_)⟩
  rintro ⟨B1, G1, hP, hg, hEnd⟩
  have hWK : W.heap[w.heap.size]? = some (.cells #[.int .i64 0, .string ⟨#[]⟩] 91 (0, 0)) := (hP.ev.keep _ (by omega) (by
    rintro ⟨id, o, h1, h2⟩
    have := (hS.lt id o h1).2
    have h2 : (G.f id).b = w.heap.size := h2
    have : (G id).b < w.heap.size := this
    omega)).trans (alloc_at w _)
  have fin : ∀ {W' : World} {v : AV} {y : Value}, Ev (fun b => b = w.heap.size) W W' → (∀ O G n, R W' O G n v y) → ∃ G', Post M.objs (Lt M.next) G w M1.objs (Lt M1.next) G' W' ∧ M.next ≤ M1.next ∧ EndOk (.ret v) (.returned y) (R W' (Own M1.objs G') G' (Lt M1.next)) := by
    intro W' v y hE' hv
    obtain ⟨h1, h2⟩ := Post.boxed hS hE (Nat.le_refl _) hP hE'
    have hB : ∀ i, B1 i → Lt M1.next i := fun i hi => by
      rcases hg.new i hi with h | h
      · exact Nat.lt_of_lt_of_le h hg.le
      · exact h.2
    exact ⟨_, { st := h1.st.weaken hB, ev := h1.ev, same := h1.same, next := fun i hi => hB i (h1.next i hi), agree := h1.agree, own := h1.own }, hg.le, y, rfl, hv _ _ _⟩
  have hput : ∀ (k : Int) (s : ByteArray), Ev (fun b => b = w.heap.size) W (putF w.heap.size k s W) := fun k s =>
    (setCell_ev hWK).trans (setCell_ev (setBlk hWK)) fun _ _ h => h
  cases r1 with
  | ret v =>
    cases h
    obtain ⟨y, rfl, _⟩ := hEnd
    refine ⟨hWK, .inl ⟨y, rfl, fin (hput 0 ⟨#[]⟩) fun O G n => R.p (.agg _ _ rfl (fun i x h => ?_) fun i c x h1 h2 => ?_)⟩⟩
    · match i, h with
      | 0, h => cases h; rfl
      | 1, h => cases h; rfl
    · match i, h1, h2 with
      | 0, h1, h2 => cases h1; cases h2; exact .int _ _
      | 1, h1, h2 => cases h1; cases h2; exact .str _ _ rfl
  | pan v =>
    obtain ⟨y, rfl, hy⟩ := hEnd
    simp only at h
    split at h
    · rename_i heq
      cases heq
    · rename_i t k s heq
      cases heq
      obtain ⟨ht, h⟩ := bf_some.1 h
      have ht := Nat.eq_of_beq_eq_true ht
      subst ht
      cases h
      obtain ⟨hy, _⟩ := hy
      cases hy with
      | iface _ _ y hy =>
        cases hy with
        | p _ _ hp =>
          have hp' := hp
          cases hp with
          | agg _ vs hl hv hh =>
            obtain ⟨y1, y2, rfl⟩ : ∃ y1 y2, vs = [y1, y2] := by
              match vs, hl with
              | [y1, y2], _ => exact ⟨y1, y2, rfl⟩
            have e1 := hh 0 _ y1 rfl rfl
            have e2 := hh 1 _ y2 rfl rfl
            cases e1
            cases e2 with
            | str _ bs hbs =>
              refine ⟨hWK, .inr ⟨k, bs, rfl, fin ((hput k bs).trans (alloc_ev _ _) fun _ _ h => h.elim) fun O G n => R.p (.agg _ _ rfl (fun i x h => ?_) fun i c x h1 h2 => ?_)⟩⟩
              · match i, h with
                | 0, h => cases h; rfl
                | 1, h => cases h; rfl
              · match i, h1, h2 with
                | 0, h1, h2 => cases h1; cases h2; exact .int _ _
                | 1, h1, h2 => cases h1; cases h2; exact .str _ _ hbs
    · cases h
end Go.Ab
