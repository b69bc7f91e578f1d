/- States with boxes of others. A map that is changed; worlds in which cells stay. From the plain walk to the walk within a round. Objects that others have made. Functions with a deferred function. -/
import Derived.Test.YtmhjnndhphidfaaGreatA7
import Derived.RangeFuncNested
import Derived.RangeFuncCalls
import Derived.OrdersIn
import Derived.StillTail
import Derived.Defers
import Derived.RegionTactic
namespace Go.Ab
set_option maxRecDepth 8000
set_option linter.unusedVariables false
set_option linter.unusedSimpArgs false
section
variable {objs objs0 : Objs} {B B' B0 : Nat → Prop} {G G0 : Gm} {w w' w0 : World}
theorem St.weaken (hS : St objs B G w) (hB : ∀ i, B i → B' i) : St objs B' G w where
  lt id o k := ⟨hB _ (hS.lt id o k).1, (hS.lt id o k).2⟩
  inj := hS.inj
  rel := hS.rel
  refs id o k r hr := hB _ (hS.refs id o k r hr)
  apart := hS.apart
  ltX := hS.ltX
  wf id o k := hB _ (hS.wf id o k)
theorem R.weaken {O : Bl} {v : AV} {x : Value} (h : R w O G B v x) (hB : ∀ i, B i → B' i) : R w O G B' v x := ⟨h.1, fun r hr => hB r (h.2 r hr)⟩
/-- New blocks that are nobody's business: X' are blocks of others, all of them old ones of others or new. -/
theorem St.box (hS : St objs B G w) (hE : Ev (fun _ => False) w w') {X' : Bl} (hX : ∀ b, X' b → b < w'.heap.size) (hX' : ∀ b, X' b → b < w.heap.size → G.X b) (hX2 : ∀ b, G.X b → X' b) :
    St objs B ⟨G.f, X'⟩ w' ∧ (∀ v x, R w (Own objs G) G B v x → R w' (Own objs ⟨G.f, X'⟩) ⟨G.f, X'⟩ B v x) := by
  have hO : ∀ b, b < w.heap.size → Own objs ⟨G.f, X'⟩ b → Own objs G b := by
    rintro b hb (h | ⟨id, o, h1, h2⟩)
    · exact .inl (hX' b h hb)
    · exact .inr ⟨id, o, h1, h2⟩
  have hEv : Ev (Own objs G) w w' := hE.mono fun _ h => h.elim
  refine ⟨{ lt := fun id o k => ⟨(hS.lt id o k).1, Nat.lt_of_lt_of_le (hS.lt id o k).2 hE.size⟩, inj := hS.inj, rel := fun id o k => ?_, refs := hS.refs, apart := fun id o k hx => hS.apart id o k (hX' _ hx (hS.lt id o k).2), ltX := hX, wf := hS.wf }, fun v x h => ⟨h.1.mono hEv hO fun _ _ => rfl, h.2⟩⟩
  exact (hS.rel id o k).keep (hE.keep _ (hS.lt id o k).2 fun h => h) (fun v x _ h => h.mono hEv hO fun _ _ => rfl) fun p x h => h.mono hEv hO
/-- Blocks of others change; some of them are nobody's from now on. -/
theorem St.unbox (hS : St objs B G w) (hE : Ev G.X w w') {X' : Bl} (hX : ∀ b, X' b → G.X b) :
    St objs B ⟨G.f, X'⟩ w' ∧ (∀ v x, R w (Own objs G) G B v x → R w' (Own objs ⟨G.f, X'⟩) ⟨G.f, X'⟩ B v x) := by
  have hO : ∀ b, b < w.heap.size → Own objs ⟨G.f, X'⟩ b → Own objs G b := by
    rintro b hb (h | ⟨id, o, h1, h2⟩)
    · exact .inl (hX b h)
    · exact .inr ⟨id, o, h1, h2⟩
  have hEv : Ev (Own objs G) w w' := hE.mono fun _ h => .inl h
  refine ⟨{ lt := fun id o k => ⟨(hS.lt id o k).1, Nat.lt_of_lt_of_le (hS.lt id o k).2 hE.size⟩, inj := hS.inj, rel := fun id o k => ?_, refs := hS.refs, apart := fun id o k hx => hS.apart id o k (hX _ hx), ltX := fun b hb => Nat.lt_of_lt_of_le (hS.ltX b (hX b hb)) hE.size, wf := hS.wf }, fun v x h => ⟨h.1.mono hEv hO fun _ _ => rfl, h.2⟩⟩
  exact (hS.rel id o k).keep (hE.keep _ (hS.lt id o k).2 (hS.apart id o k)) (fun v x _ h => h.mono hEv hO fun _ _ => rfl) fun p x h => h.mono hEv hO
theorem setCell_ev {K k : Nat} {c : Array Value} {t : TypeId} {f : Nat × Nat} {v : Value} (h : w.heap[K]? = some (.cells c t f)) : Ev (fun b => b = K) w (w.setCell ⟨K, k, none⟩ v) where
  os := rfl
  tape := rfl
  output := rfl
  size := by simp
  keep b hb hn := by
    unfold World.setCell
    simp only [Array.getElem?_modify]
    rw [if_neg (fun e => hn e.symm)]
  shape b c' e fr hc := by
    unfold World.setCell
    simp only [Array.getElem?_modify]
    split
    · rename_i e
      subst e
      rw [hc]
      exact ⟨_, rfl, by simp⟩
    · exact ⟨c', hc, rfl⟩
/-- A call between a box's making and its end. -/
theorem Post.boxed {M M1 : Mem} {K : Nat} {B1 : Nat → Prop} {G1 : Gm} {w1 W W' : World} {Ba : Nat → Prop} (hS : St M.objs Ba G w) (hE : Ev (fun _ => False) w w1) (hK : w.heap.size ≤ K) (hP : Post M.objs Ba ⟨G.f, fun b => G.X b ∨ b = K⟩ w1 M1.objs B1 G1 W) (hE' : Ev (fun b => b = K) W W') :
    Post M.objs Ba G w M1.objs B1 ⟨G1.f, G.X⟩ W' ∧ (∀ v x, R W (Own M1.objs G1) G1 B1 v x → R W' (Own M1.objs ⟨G1.f, G.X⟩) ⟨G1.f, G.X⟩ B1 v x) := by
  have hX : G1.X = fun b => G.X b ∨ b = K := hP.same
  obtain ⟨h1, h2⟩ := hP.st.unbox (X' := G.X) (hE'.mono fun b hb => by rw [hX]; exact .inr hb) fun b hb => by rw [hX]; exact .inl hb
  refine ⟨{ st := h1, ev := ?_, same := rfl, next := hP.next, agree := hP.agree, own := fun b hb k => ?_ }, h2⟩
  · have ha : Ev (Mut M.objs G) w w1 := hE.mono fun _ h => h.elim
    have hb := ha.trans hP.ev fun b _ h => h
    exact hb.trans hE' fun b hlt he => by omega
  · have k' : Own M1.objs G1 b := by
      rcases k with k | k
      · exact .inl (by rw [hX]; exact .inl k)
      · exact .inr k
    rcases hP.own b (Nat.lt_of_lt_of_le hb hE.size) k' with (h | h) | h
    · exact .inl h
    · omega
    · exact .inr h
end
end Go.Ab
namespace Go.Ab
set_option maxRecDepth 8000
set_option linter.unusedVariables false
set_option linter.unusedSimpArgs false
section
variable {P : Program} {O : Bl} {G : Gm} {w w' : World} {b : Nat}
theorem map_put {t : TypeId} {k : PV} {xk xv : Value} {v : AV} {l l' : List (PV × AV)} (hkk : keyK P t = some (kindK k)) (hM : MapAt w O G b l) (hk : PRel w O k xk) (hv : AVRel w O G v xv) (hput : putK k v l = some l') (hO : O b) :
    ∃ es' ck', (Instr.mapUpdate t (.map (some b)) xk xv).run P w = .ok () { w with heap := w.heap.setIfInBounds b (.map es' ck') } ∧ MapAt { w with heap := w.heap.setIfInBounds b (.map es' ck') } O G b l' := by
  obtain ⟨kt, e, hu, hKD⟩ := key_desc hkk
  have hck : ∀ e, (Instr.checkKey e 10000 kt xk).run P w = .ok () w := fun e => checkKey_ok hKD hk e 9998
  obtain ⟨es, ck, hb, hsz, hes⟩ := hM
  have fin : ∀ (es' : Array MapEntry) (ck' : Nat), (Instr.mapUpdate t (.map (some b)) xk xv).run P w = .ok () { w with heap := w.heap.setIfInBounds b (.map es' ck') } →
      MapSz es' ck' l'.length → (∀ (i : Nat) (p : PV) (v : AV) (e : MapEntry), l'[i]? = some (p, v) → es'[i]? = some e → PRel w O p e.key ∧ AVRel w O G v e.val) →
      ∃ es' ck', (Instr.mapUpdate t (.map (some b)) xk xv).run P w = .ok () { w with heap := w.heap.setIfInBounds b (.map es' ck') } ∧ MapAt { w with heap := w.heap.setIfInBounds b (.map es' ck') } O G b l' := by
    intro es' ck' hrun hsz' hval
    have hE : Ev O w { w with heap := w.heap.setIfInBounds b (.map es' ck') } := setMap_ev hb hO
    refine ⟨es', ck', hrun, es', ck', ?_, hsz', fun i p v e h3 h4 => ?_⟩
    · have := (Array.getElem?_eq_some_iff.1 hb).1
      simp [this]
    · obtain ⟨k1, k2⟩ := hval i p v e h3 h4
      exact ⟨k1.mono hE fun _ _ h => h, k2.mono hE (fun _ _ h => h) fun _ _ => rfl⟩
  rcases putK_ok (G := G) hKD hk l es.toList 0 l' (by simpa using hsz.1.symm) (fun j p v e h1 h2 => hes j p v e h1 (by simpa using h2)) hput with ⟨hf, rfl⟩ | ⟨j, en, p, v, hf, hj, hlj, rfl, heq⟩
  · refine fin (es.push { key := xk, val := xv, born := ck }) (ck + 1) (by simp [Instr.mapUpdate, run_und w hu, MapKept.run_getObj_map hb, hck, FindAt.run hf, MapKept.run_setObj_map _ hb]) (by simpa using hsz.push _ _) (fun i p v e h3 h4 => ?_)
    rw [Array.getElem?_push] at h4
    rw [List.getElem?_append] at h3
    by_cases hi : i < l.length
    · rw [if_pos hi] at h3
      rw [if_neg (by have := hsz.1; omega)] at h4
      exact hes i p v e h3 h4
    · rw [if_neg hi] at h3
      have hi' : i - l.length = 0 := by
        have := (List.getElem?_eq_some_iff.1 h3).1
        simpa using this
      rw [hi'] at h3
      simp at h3
      obtain ⟨rfl, rfl⟩ := h3
      rw [if_pos (by have := hsz.1; omega)] at h4
      cases h4
      exact ⟨hk, hv⟩
  · have hj' : es[j]? = some en := by simpa using hj
    have hkey : en.key = xk ∧ Instr.sameBits 10000 xk xk = true := key_same hk (hes j p v en hlj hj').1 heq
    rw [Nat.zero_add] at hf
    refine fin (es.modify j fun e => { e with key := xk, val := xv }) ck ?_ (by simpa using hsz.modify j (fun e => { e with key := xk, val := xv }) fun _ => rfl) (fun i p' v' e h3 h4 => ?_)
    · simp [Instr.mapUpdate, run_und w hu, MapKept.run_getObj_map hb, hck, FindAt.run hf, hj', hkey.1, Instr.keyThatStays, hkey.2, MapKept.run_setObj_map _ hb]
    · rw [List.getElem?_set] at h3
      rw [Array.getElem?_modify] at h4
      by_cases hij : j = i
      · subst hij
        have hlt := (List.getElem?_eq_some_iff.1 hlj).1
        simp [hlt] at h3
        obtain ⟨rfl, rfl⟩ := h3
        simp [hj'] at h4
        subst h4
        exact ⟨hk, hv⟩
      · simp [hij] at h3 h4
        exact hes i p' v' e h3 h4
/-- Cells stay as they are; what is new is new. -/
structure Gr (w w' : World) : Prop where
  size : w.heap.size ≤ w'.heap.size
  keep : ∀ (b : Nat) (c : Array Value) (e : TypeId) (f : Nat × Nat), w.heap[b]? = some (.cells c e f) → w'.heap[b]? = some (.cells c e f)
theorem Gr.cell {a : Addr} {v : Value} (h : Gr w w') (ha : w.cell? a = some v) : w'.cell? a = some v := by
  unfold World.cell? at ha ⊢
  cases hb : w.heap[a.block]? with
  | none => rw [hb] at ha; simp at ha
  | some o =>
    rw [hb] at ha
    cases o with
    | cells c e f => rw [h.keep _ _ _ _ hb]; exact ha
    | _ => simp at ha
theorem PRel.gr {v : PV} {x : Value} (h : PRel w O v x) (hg : Gr w w') : PRel w' O v x := by
  induction h with
  | bool b => exact .bool b
  | int k n => exact .int k n
  | str s b h => exact .str s b h
  | fz0 a cap => exact .fz0 a cap
  | fz es b base s cap f hb hn hc hs hw hv hr ih => exact .fz es b base s cap f (Nat.lt_of_lt_of_le hb hg.size) hn hc hs (fun i j c v h1 h2 => hg.cell (hw i j c v h1 h2)) hv ih
  | agg cs vs hl hv h ih => exact .agg cs vs hl hv ih
theorem mapAt_gr {m : List (PV × PV)} (h : MapAt w O G b (vals m)) (hg : Gr w w') (hb : w'.heap[b]? = w.heap[b]?) : MapAt w' O G b (vals m) := by
  obtain ⟨es, ck, h1, h2, h3⟩ := h
  refine ⟨es, ck, hb.trans h1, h2, fun i k v e hm he => ?_⟩
  obtain ⟨k1, k2⟩ := h3 i k v e hm he
  refine ⟨k1.gr hg, ?_⟩
  have : ∃ p, v = .p p := by
    unfold vals at hm
    rw [List.getElem?_map, Option.map_eq_some_iff] at hm
    obtain ⟨q, _, hq⟩ := hm
    cases hq
    exact ⟨_, rfl⟩
  obtain ⟨p, rfl⟩ := this
  cases k2 with
  | p _ _ k2 => exact .p _ _ (k2.gr hg)
theorem Gr.refl : Gr w w := ⟨Nat.le_refl _, fun _ _ _ _ h => h⟩
theorem Gr.trans {w'' : World} (h : Gr w w') (k : Gr w' w'') : Gr w w'' := ⟨Nat.le_trans h.size k.size, fun b c e f hc => k.keep b c e f (h.keep b c e f hc)⟩
theorem gr_alloc (w : World) (o : Obj) : Gr w (w.alloc o) := ⟨by simp [World.alloc, -World.alloc_eq], fun b c e f h => by
  have := (Array.getElem?_eq_some_iff.1 h).1
  simp [World.alloc, -World.alloc_eq, Array.getElem?_push, h, Nat.ne_of_lt this]⟩
theorem gr_drew (w : World) : Gr w w.drew := ⟨Nat.le_refl _, fun _ _ _ _ h => h⟩
theorem gr_map {b : Nat} {es es' : Array MapEntry} {ck ck' : Nat} (hb : w.heap[b]? = some (.map es ck)) : Gr w { w with heap := w.heap.setIfInBounds b (.map es' ck') } := ⟨by simp, fun b' c e f h => by
  by_cases hbb : b = b'
  · subst hbb; rw [hb] at h; cases h
  · simp [hbb, h]⟩
/-! ### A map filled from a list's end -/
def AllStr (l : List (PV × PV)) : Prop := ∀ p ∈ l, ∃ s, p.1 = .str s
theorem putK_str {s : List Nat} {v : PV} : ∀ {l : List (PV × PV)}, AllStr l → ∃ l', putK (.str s) v l = some l' ∧ AllStr l'
  | [], h => ⟨_, rfl, fun p hp => by simp at hp; subst hp; exact ⟨s, rfl⟩⟩
  | (k, u) :: l, h => by
    obtain ⟨t, ht⟩ := h (k, u) (by simp)
    simp only at ht
    subst ht
    obtain ⟨l', h1, h2⟩ := putK_str (s := s) (v := v) (l := l) fun p hp => h p (by simp [hp])
    have e : putK (.str s) v ((.str t, u) :: l) = bf (eqS s t) (some ((.str s, v) :: l)) (ob (putK (.str s) v l) fun m => some ((.str t, u) :: m)) := rfl
    rw [e, h1]
    cases eqS s t with
    | true => exact ⟨_, rfl, fun p hp => by
        rcases List.mem_cons.1 hp with rfl | hp
        · exact ⟨s, rfl⟩
        · exact h p (by simp [hp])⟩
    | false => exact ⟨_, rfl, fun p hp => by
        rcases List.mem_cons.1 hp with rfl | hp
        · exact ⟨t, rfl⟩
        · exact h2 p hp⟩
/-- The elements of numbers js enter a map, by their first cells. -/
noncomputable def insL (L : List (List PV)) (js : List Nat) (l : List (PV × PV)) : Option (List (PV × PV)) :=
  List.rec (motive := fun _ => List (PV × PV) → Option (List (PV × PV))) some (fun j _ ih l => ob (nth L j) fun e => ob (nth e 0) fun k => ob (putK k (.agg e) l) fun l => ih l) js l
theorem insL_cons (L : List (List PV)) (j : Nat) (js : List Nat) (l : List (PV × PV)) : insL L (j :: js) l = ob (nth L j) fun e => ob (nth e 0) fun k => ob (putK k (.agg e) l) fun l => insL L js l := rfl
theorem insL_snoc (L : List (List PV)) (j : Nat) : ∀ (js : List Nat) (l : List (PV × PV)), insL L (js ++ [j]) l = ob (insL L js l) fun l => ob (nth L j) fun e => ob (nth e 0) fun k => putK k (.agg e) l
  | [], l => by
    show (ob (nth L j) fun e => ob (nth e 0) fun k => ob (putK k (.agg e) l) fun l => some l) = ob (nth L j) fun e => ob (nth e 0) fun k => putK k (.agg e) l
    cases nth L j with
    | none => rfl
    | some e =>
      show (ob (nth e 0) fun k => ob (putK k (.agg e) l) fun l => some l) = ob (nth e 0) fun k => putK k (.agg e) l
      cases nth e 0 with
      | none => rfl
      | some k =>
        show (ob (putK k (.agg e) l) fun l => some l) = putK k (.agg e) l
        cases putK k (.agg e) l <;> rfl
  | i :: js, l => by
    rw [List.cons_append, insL_cons, insL_cons]
    cases nth L i with
    | none => rfl
    | some e =>
      show (ob (nth e 0) fun k => _) = ob (ob (nth e 0) fun k => _) _
      cases nth e 0 with
      | none => rfl
      | some k =>
        show (ob (putK k (.agg e) l) fun l => insL L (js ++ [j]) l) = ob (ob (putK k (.agg e) l) fun l => insL L js l) _
        cases putK k (.agg e) l with
        | none => rfl
        | some l1 => exact insL_snoc L j js l1
end
end Go.Ab
namespace Go.Ab
set_option maxRecDepth 8000
set_option linter.unusedVariables false
set_option linter.unusedSimpArgs false
section
variable {P : Program} {a : Act} {w : World} {Q : Exit → Act → World → Prop} {m n : Nat}
theorem Oper.wp_in {o : Oper} {next : Act → World → Prop} (hd : ∀ c, o.op ≠ .defer c) (h : o.wp P a w next Q) : o.wpIn (Fence.wide.inRound m) n P a w next Q := by
  refine ⟨fun _ _ => trivial, ?_⟩
  rw [Oper.semAt_eq _ _ _ hd]
  unfold Oper.wp at h
  generalize (execOp a.eval o).run P w = r at h
  cases r with
  | ok x w' =>
    cases x <;> simp only [Oper.upon, Oper.uponIn] at h ⊢ <;> first | exact h | skip
    · exact ⟨fun h => (by cases h), CallsIn.inRound m (callsIn_wide.2 h)⟩
    · refine ⟨fun h => (by cases h), fun c cs _ => ?_⟩
      obtain ⟨v, w'', h1, h2⟩ := h c cs
      exact ⟨v, w'', h1, stepsIn_wide.2 h2⟩
    all_goals exact h.elim
  | halt x w' => cases x <;> simp only [Oper.upon, Oper.uponIn] at h ⊢ <;> exact h
theorem wpAny_in {ops : Array Oper} {md : Region.Mode} (hQ : ¬ LetsOut Q) (hd : ∀ o ∈ ops.toList, ∀ c, o.op ≠ .defer c) : ∀ (fuel : Nat) (listed : Array Bool) (a : Act) (w : World), wpAny P md ops Q fuel listed a w → wpAnyIn (Fence.wide.inRound m) n P md ops Q fuel listed a w
  | 0, listed, a, w, h => h
  | fuel + 1, listed, a, w, h => by
    refine ⟨h.1, fun i hi => ?_⟩
    have h2 := h.2 i hi
    unfold wpOp at h2
    unfold wpOpIn
    cases ho : ops[i]? with
    | none =>
      rw [ho] at h2
      exact wpAny_in hQ hd fuel _ _ _ h2
    | some o =>
      rw [ho] at h2
      simp only at h2 ⊢
      split
      · rename_i hw
        rw [if_pos hw] at h2
        rcases h2 with h2 | ⟨_, h2⟩
        · exact Oper.wp_in (hd o (List.mem_of_getElem? (by simpa using ho))) (Oper.wp_mono (fun a w k => wpAny_in hQ hd fuel _ a w k) h2)
        · exact absurd h2 hQ
      · rename_i hw
        rw [if_neg hw] at h2
        exact ⟨fun _ _ => trivial, wpAny_in hQ hd fuel _ _ _ h2⟩
theorem wpIn_region_still_tail {id : Nat} {l : List Oper} (k : Nat) (hm : P.follows .mixedOrders = true) (hB : Region.lexTailB .any l.toArray k = true) (hQ : ¬ LetsOut Q) (hd : ∀ o ∈ l, ∀ c, o.op ≠ .defer c)
    (h : wpStill P l.toArray { w with drawn := w.drawn + 1 } (fun a' => wpList P l.toArray Q (l.drop k) a' { w with drawn := w.drawn + 1 }) (l.take k) a) : (Code.region id l.toArray true).wpIn (Fence.wide.inRound m) n P Q a w := by
  simp only [Region.lexTailB, Bool.and_eq_true, decide_eq_true_eq] at hB
  obtain ⟨⟨⟨⟨hsel, hn⟩, hs⟩, hc⟩, hlex⟩ := hB
  have hn' : k < l.length := by simpa using hn
  have htl : (l.take k).length = k := by simp; omega
  have hdl : (l.drop k).length = l.toArray.size - k := by simp
  have inv0 : HeadInv .any l.toArray k (Array.replicate l.toArray.size false) :=
    ⟨by simp, fun j oj _ hl => (by rw [getD_replicate_false] at hl; cases hl), fun t _ ht => getD_in (by simpa using ht) (getD_replicate_false _ _)⟩
  have H := wpAnyL_lex (md := .any) (g := l.toArray.size - k) hsel hs hc hn (l.take k) 0 _ a (fun j hj => by
    have hj' : j < k := by rw [htl] at hj; exact hj
    simp [hj']) (by simpa using htl) inv0 (by rw [htl]; exact hlex) h
  refine wpIn_region_any hm (wpAny_in hQ (by simpa using hd) _ _ _ _ ?_)
  have := wpAny_of_head (Q' := Q) (g := l.toArray.size - k) (fun listed a' hL => by
    have := wpAny_of_seq (md := .any) (Q' := Q) (l.drop k) k listed a' { w with drawn := w.drawn + 1 } (fun j => by simp [List.getElem?_drop]) (by rw [hdl]; exact hL.1) hL.2
    rwa [hdl] at this) _ _ _ H
  rw [htl, show k + (l.toArray.size - k) = l.toArray.size by omega] at this
  exact this
end
end Go.Ab
namespace Go.Ab
set_option maxRecDepth 8000
set_option linter.unusedVariables false
set_option linter.unusedSimpArgs false
section
variable {objs news : Objs} {G G' : Gm} {w W' : World} {k k' : Nat}
theorem Post.adopt (hS : St objs (Lt k) G w) (hE : Ev (fun _ => False) w W') (hkk : k ≤ k') (hG : ∀ i, i < k → G'.f i = G.f i) (hX : G'.X = G.X) (hnew : ∀ id o, getO id news = some o → k ≤ id ∧ id < k')
    (hal : ∀ id o, Alive news id o → w.heap.size ≤ (G' id).b ∧ (G' id).b < W'.heap.size) (hinj : ∀ id o id' o', Alive news id o → Alive news id' o' → (G' id).b = (G' id').b → id = id')
    (hrel : ∀ id o, Alive news id o → ORel W' (Own (news ++ objs) G') G' (G' id) o) (hrefs : ∀ id o, Alive news id o → ∀ r ∈ refsO o, r < k') : Post objs (Lt k) G w (news ++ objs) (Lt k') G' W' := by
  have hcase : ∀ id o, Alive (news ++ objs) id o → Alive news id o ∨ (Alive objs id o ∧ id < k) := by
    intro id o ⟨h1, h2⟩
    rw [getO_append] at h1
    cases hn : getO id news with
    | some o' => rw [hn] at h1; simp at h1; subst h1; exact .inl ⟨hn, h2⟩
    | none =>
      rw [hn] at h1
      have h1 : getO id objs = some o := by simpa using h1
      exact .inr ⟨⟨h1, h2⟩, hS.wf id o h1⟩
  have hown : ∀ b, b < w.heap.size → Own (news ++ objs) G' b → Own objs G b := by
    rintro b hb (h | ⟨id, o, h1, h2⟩)
    · exact .inl (by rw [← hX]; exact h)
    · rcases hcase id o h1 with h | ⟨h, hlt⟩
      · have := (hal id o h).1
        omega
      · refine .inr ⟨id, o, h, ?_⟩
        rw [← h2]
        show (G.f id).b = (G'.f id).b
        rw [hG id hlt]
  have hEv : Ev (Own objs G) w W' := hE.mono fun _ h => h.elim
  have hval : ∀ v x, AVRel w (Own objs G) G v x → (∀ r ∈ refs v, r < k) → AVRel W' (Own (news ++ objs) G') G' v x := fun v x h hr => h.mono hEv hown fun r hr' => hG r (hr r hr')
  refine { st := ?_, ev := hE.mono fun _ h => h.elim, same := hX, next := fun i hi => Nat.lt_of_lt_of_le hi hkk, agree := fun id hid => hG id hid, own := hown }
  refine { lt := ?_, inj := ?_, rel := ?_, refs := ?_, apart := ?_, ltX := fun b hb => ?_, wf := ?_ }
  · intro id o h
    rcases hcase id o h with h | ⟨h, hlt⟩
    · exact ⟨(hnew id o h.1).2, (hal id o h).2⟩
    · refine ⟨Nat.lt_of_lt_of_le hlt hkk, ?_⟩
      show (G'.f id).b < _
      rw [hG id hlt]
      exact Nat.lt_of_lt_of_le (hS.lt id o h).2 hE.size
  · intro id o id' o' h h' he
    rcases hcase id o h with h | ⟨h, hlt⟩ <;> rcases hcase id' o' h' with h' | ⟨h', hlt'⟩
    · exact hinj id o id' o' h h' he
    · have h1 := (hal id o h).1
      have h2 := (hS.lt id' o' h').2
      have he : (G' id).b = (G'.f id').b := he
      rw [hG id' hlt'] at he
      have h2 : (G.f id').b < w.heap.size := h2
      omega
    · have h1 := (hal id' o' h').1
      have h2 := (hS.lt id o h).2
      have he : (G'.f id).b = (G' id').b := he
      rw [hG id hlt] at he
      have h2 : (G.f id).b < w.heap.size := h2
      omega
    · have he : (G'.f id).b = (G'.f id').b := he
      rw [hG id hlt, hG id' hlt'] at he
      exact hS.inj id o id' o' h h' he
  · intro id o h
    rcases hcase id o h with h | ⟨h, hlt⟩
    · exact hrel id o h
    · show ORel W' _ _ (G'.f id) o
      rw [hG id hlt]
      exact (hS.rel id o h).keep (hE.keep _ (hS.lt id o h).2 fun h => h) (fun v x hr hv => hval v x hv fun r hr' => hS.refs id o h r (hr r hr')) fun p x hp => hp.mono hEv hown
  · intro id o h r hr
    rcases hcase id o h with h | ⟨h, hlt⟩
    · exact hrefs id o h r hr
    · exact Nat.lt_of_lt_of_le (hS.refs id o h r hr) hkk
  · intro id o h hx
    rcases hcase id o h with h | ⟨h, hlt⟩
    · have h1 := (hal id o h).1
      rw [hX] at hx
      have := hS.ltX _ hx
      omega
    · have hx : G'.X (G'.f id).b := hx
      rw [hX, hG id hlt] at hx
      exact hS.apart id o h hx
  · rw [hX] at hb
    exact Nat.lt_of_lt_of_le (hS.ltX b hb) hE.size
  · intro id o h
    rw [getO_append] at h
    cases hn : getO id news with
    | some o' => exact (hnew id o' hn).2
    | none =>
      rw [hn] at h
      exact Nat.lt_of_lt_of_le (hS.wf id o (by simpa using h)) hkk
end
end Go.Ab
namespace Go.Ab
set_option maxRecDepth 8000
set_option linter.unusedVariables false
set_option linter.unusedSimpArgs false
noncomputable def evL (l : List CCode) : Cll → Nat → Fr → Mem → Option (Fr × Mem) :=
  List.rec (motive := fun _ => Cll → Nat → Fr → Mem → Option (Fr × Mem)) (fun _ _ fr M => some (fr, M)) (fun c _ ih call n fr M => ob (evCode c call n fr M) fun r => exCases r.1 (ih call n r.2.1 r.2.2) (fun _ => none) none) l
def hasDefer : Code → Bool
  | .region _ ops _ => ops.toList.any fun o => match o.op with | .defer _ => true | _ => false
  | _ => false
/-- What stands before the region with the deferred call, the region, what stands behind it. -/
def splitD : Code → Option (List Code × Code × Code)
  | .seq a b => if hasDefer a then some ([], a, b) else match splitD b with
    | some (l, r, y) => some (a :: l, r, y)
    | none => none
  | _ => none
theorem splitD_eq : ∀ {c : Code} {l : List Code} {r y : Code}, splitD c = some (l, r, y) → c = l.foldr Code.seq (.seq r y)
  | .seq a b, l, r, y, h => by
    unfold splitD at h
    split at h
    · cases h; rfl
    · split at h
      · rename_i l' r' y' hb
        cases h
        rw [splitD_eq hb]
        rfl
      · cases h
section
variable {P : Program} {L : Nat} {slots : List Nat} {N : Tm} {ds : List Deferred} {M0 : Mem} {B0 : Nat → Prop} {G0 : Gm} {w0 : World} {call : Cll}
theorem codes_ok (hfollow : P.follows .mixedOrders = true) (hcall : CllOk P call) (hF0 : Free M0.next B0) (n : Nat) (rest : Code) {Q : Exit → Act → World → Prop} : ∀ (l : List Code) (fr : List AV) (M : Mem) (fr1 : List AV) (M1 : Mem) (B : Nat → Prop) (G : Gm) (a : Act) (w : World), (∀ c ∈ l, dstsT N c = true) →
    evL (l.map (cCode P L slots)) call n fr M = some (fr1, M1) → Post M0.objs B0 G0 w0 M.objs B G w → Grow M0.next M.next B0 B → FrOk slots fr a w (Own M.objs G) G B → AtT a N → a.defers = ds →
    (∀ B1 G1 a1 w1, Post M0.objs B0 G0 w0 M1.objs B1 G1 w1 → Grow M0.next M1.next B0 B1 → FrOk slots fr1 a1 w1 (Own M1.objs G1) G1 B1 → AtT a1 N → a1.defers = ds → rest.wp P Q a1 w1) → (l.foldr Code.seq rest).wp P Q a w
  | [], fr, M, fr1, M1, B, G, a, w, hd, he, hP, hG, hfr, hsz, hds, hr => by
    cases he
    exact hr B G a w hP hG hfr hsz hds
  | c :: l, fr, M, fr1, M1, B, G, a, w, hd, he, hP, hG, hfr, hsz, hds, hr => by
    obtain ⟨⟨ex, fr', M'⟩, hc, he⟩ := ob_some.1 (show (ob (evCode (cCode P L slots c) call n fr M) fun r => exCases r.1 (evL (l.map (cCode P L slots)) call n r.2.1 r.2.2) (fun _ => none) none) = some (fr1, M1) from he)
    refine wp_seq (wp_mono (code_ok hfollow hcall hF0 n c fr M _ B G a w (hd c (by simp)) hc hP hG hfr hsz hds) fun e a' w' hq => ?_)
    obtain ⟨B1, G1, h1, h2, h3, h4, h5, h6⟩ := hq
    cases ex with
    | normal =>
      have h3 : e = .normal := h3
      subst h3
      exact codes_ok hfollow hcall hF0 n rest l fr' M' fr1 M1 B1 G1 a' w' (fun c hc => hd c (by simp [hc])) he h1 h2 (h4 rfl) h5 h6 hr
    | exit i => cases he
    | ret => cases he
    | pan v => cases he
theorem wp_defer {id f tb tF : Nat} {ops : Array Oper} {o0 o1 : Oper} {c : Call} {Q : Exit → Act → World → Prop} {a : Act} {w : World} (hops : ops.toList = [o0, o1]) (h0 : o0.op = .makeFunc (.func f) #[] #[.tmp tb]) (g0 : o0.guard = none) (d0 : o0.dst = some tF)
    (h1 : o1.op = .defer c) (hc : c.callee = .value (.tmp tF)) (hca : c.args = #[]) (g1 : o1.guard = none) (d1 : o1.dst = none) (hlt : tF < a.tmps.size)
    (h : Q .normal { a.put (some tF) (.func (.func f) #[] #[a.eval (.tmp tb)]) with defers := { target := .fn (.func f) #[a.eval (.tmp tb)], args := #[] } :: a.defers } w) : (Code.region id ops false).wp P Q a w := by
  refine wp_region_list ?_
  rw [hops]
  refine wpList_plain g0 fun K hK => ?_
  unfold Oper.wp
  simp [execOp, h0, Instr.makeFunc, go_sem, Oper.upon, d0]
  refine hK _ _ ?_
  refine wpList_plain g1 fun K' hK' => ?_
  unfold Oper.wp
  have he : ({ tmps := a.tmps.setIfInBounds tF (Value.func (.func f) #[] #[a.eval (.tmp tb)]), defers := a.defers } : Act).eval (.tmp tF) = .func (.func f) #[] #[a.eval (.tmp tb)] := by simp [Act.eval, hlt]
  simp [execOp, h1, resolve, hc, hca, Act.put, hlt, go_sem, Oper.upon, d1]
  refine hK' _ _ ?_
  have e : a.eval (.tmp tb) = a.tmps[tb]?.getD undef := by simp [Act.eval]
  rw [e] at h
  exact h
end
end Go.Ab
