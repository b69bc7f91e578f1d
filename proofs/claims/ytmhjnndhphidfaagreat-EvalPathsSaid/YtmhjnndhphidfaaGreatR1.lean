/- slices.AppendSeq of maps.Keys, in the evaluator's words. (*tables).calls$4, in the evaluator's words. -/
import Derived.Test.YtmhjnndhphidfaaGreatQ1
import Derived.Test.YtmhjnndhphidfaaGreatA8
namespace Go.Ab
set_option maxRecDepth 8000
open Go.Proofs Go.RowKit
set_option linter.unusedVariables false
set_option linter.unusedSimpArgs false
section
variable {objs objs1 : Objs} {Ba B1 : Nat → Prop} {G G1 : Gm} {w w1 W W' : World}
/-- A call between some boxes' making and their end. -/
theorem Post.boxedS {K : Bl} (hS : St objs Ba G w) (hE : Ev (fun _ => False) w w1) (hK : ∀ b, K b → w.heap.size ≤ b) (hP : Post objs Ba ⟨G.f, fun b => G.X b ∨ K b⟩ w1 objs1 B1 G1 W) (hE' : Ev K W W') :
    Post objs Ba G w objs1 B1 ⟨G1.f, G.X⟩ W' ∧ (∀ v x, R W (Own objs1 G1) G1 B1 v x → R W' (Own objs1 ⟨G1.f, G.X⟩) ⟨G1.f, G.X⟩ B1 v x) := by
  have hX : G1.X = fun b => G.X b ∨ K b := hP.same
  obtain ⟨h1, h2⟩ := hP.st.unbox (X' := G.X) (hE'.mono fun b hb => by rw [hX]; exact .inr hb) fun b hb => by rw [hX]; exact .inl hb
  refine ⟨{ st := h1, ev := ?_, same := rfl, next := hP.next, agree := hP.agree, own := fun b hb k => ?_ }, h2⟩
  · have ha : Ev (Mut objs G) w w1 := hE.mono fun _ h => h.elim
    have hb := ha.trans hP.ev fun b _ h => h
    exact hb.trans hE' fun b hlt he => by have := hK b he; omega
  · have k' : Own objs1 G1 b := by
      rcases k with k | k
      · exact .inl (by rw [hX]; exact .inl k)
      · exact .inr k
    rcases hP.own b (Nat.lt_of_lt_of_le hb hE.size) k' with (h | h) | h
    · exact .inl h
    · have := hK b h; omega
    · exact .inr h
/-- A load of one cell through a related pointer. -/
theorem loadA_cell {objs : Objs} {B : Nat → Prop} (hS : St objs B G w) {v u : AV} {x : Value} (h : R w (Own objs G) G B v x) (hu : loadA objs none v = some u) :
    ∃ y b o, x = .pointer (some ⟨b, o, none⟩) ∧ w.cell? ⟨b, o, none⟩ = some y ∧ R w (Own objs G) G B u y := by
  obtain ⟨h, hb⟩ := h
  cases h <;> try (simp [loadA] at hu; done)
  case ptr id i off =>
    simp only [loadA, ob_some] at hu
    obtain ⟨o, ho, c, hc, hu⟩ := hu
    obtain ⟨xs, k1, k2, k3, k4⟩ := elem_at hS ho hc
    simp only [dropN_eq] at hu
    obtain ⟨y, hy, hr⟩ := mkVal_ok (m := none) (k1.drop off) (fun y hy => k2 y (List.mem_of_mem_drop hy)) hu
    exact ⟨y, _, _, rfl, by simpa using (k4.drop off) 0 y hy, hr⟩
  case fptr es i off b base s h =>
    simp only [loadA, ob_some, nth_eq] at hu
    obtain ⟨c, hc, hu⟩ := hu
    obtain ⟨xs, k1, k2, k3, k4⟩ := fz_elem (G := G) (n := B) h hc
    obtain ⟨q, hq, hu⟩ := hu
    cases hu
    obtain ⟨y, hy, hr⟩ := k1.get (i := off) (v := .p q) (by simp [hq])
    exact ⟨y, _, _, rfl, by simpa using (k4.drop off) 0 y (by simpa using hy), hr⟩
end
/-- What append says, of two values. -/
theorem app_two {objs : Objs} {B : Nat → Prop} {G : Gm} {w : World} (hS : St objs B G w) {va vb : AV} {xa xb : Value} {nx : Nat} {r : AV × Mem} (ha : R w (Own objs G) G B va xa) (hb : R w (Own objs G) G B vb xb) (hB : ¬ B nx)
    (he : evE (.append 1 (.res 0) (.res 1)) [] [va, vb] ⟨nx, objs⟩ = some r) :
    ∃ B', ((r.2.next = nx ∧ B' = B) ∨ (r.2.next = nx + 1 ∧ B' = fun i => B i ∨ i = nx)) ∧ ∃ x w' G', (Builtin.append_ #[76, 76] 76 #[xa, xb]).run Tryz.prog w = .ok x w' ∧ Post objs B G w r.2.objs B' G' w' ∧ R w' (Own r.2.objs G') G' B' r.1 x ∧ Wk w w' := by
  have := eok_appendW (P := Tryz.prog) (ρ := fun t => if t = 0 then some (.res 0) else if t = 1 then some (.res 1) else none) (fr := []) (env := [va, vb]) (a := ⟨#[xa, xb], []⟩) (xa := .tmp 0) (xb := .tmp 1) (t := 76) (u := 76) (ty := 76) (el := 9) (nx := nx) (r := r) hS ?_ (by kernel_rfl) (.inl ⟨9, by kernel_rfl⟩) (by rw [show Tryz.prog.cellsOf 9 = 1 by kernel_rfl]; decide) (by rw [show Tryz.prog.bytesOf 9 = 16 by kernel_rfl]; decide) (by kernel_rfl) rfl rfl hB (by rw [show Tryz.prog.cellsOf 9 = 1 by kernel_rfl]; exact he)
  · exact this
  · intro t o v ht ho
    simp only at ht
    split at ht
    · cases ht
      rename_i h
      subst h
      simp [opd] at ho
      subst ho
      exact ha
    · split at ht <;> cases ht
      rename_i h
      subst h
      simp [opd] at ho
      subst ho
      exact hb
/-- The keys of a map. -/
theorem keysA_ok {P : Program} {objs : Objs} {B : Nat → Prop} {G : Gm} {w : World} (hS : St objs B G w) {m : AV} {y : Value} {ks : List PV} (hr : R w (Own objs G) G B m y) (hk : keysA objs m = some ks) :
    (m = .nilm ∧ ks = [] ∧ y = .map none) ∨ ∃ id o es ck, m = .map id ∧ y = .map (some (G id).b) ∧ Alive objs id o ∧ w.heap[(G id).b]? = some (.map es ck) ∧ MapSz es ck ks.length ∧ ∀ (i : Nat) (k : PV) (e : MapEntry), ks[i]? = some k → es[i]? = some e → PRel w (Own objs G) k e.key := by
  rcases mapCases_some hk with ⟨id, rfl, h⟩ | ⟨rfl, h⟩
  · right
    obtain ⟨o, ho, h⟩ := ob_some.1 h
    have fin : ∀ l : List (PV × AV), o ≠ .dead → ks = l.map Prod.fst → MapAt w (Own objs G) G (G id).b l → ∃ id_1 o es ck, AV.map id = .map id_1 ∧ y = .map (some (G id_1).b) ∧ Alive objs id_1 o ∧ w.heap[(G id_1).b]? = some (.map es ck) ∧ MapSz es ck ks.length ∧ ∀ (i : Nat) (k : PV) (e : MapEntry), ks[i]? = some k → es[i]? = some e → PRel w (Own objs G) k e.key := by
      rintro l hd rfl ⟨es, ck, h1, h2, h3⟩
      refine ⟨id, o, es, ck, rfl, ?_, ⟨ho, hd⟩, h1, by simpa using h2, fun i k e hk he => ?_⟩
      · obtain ⟨hr, _⟩ := hr
        cases hr
        rfl
      · rw [List.getElem?_map, Option.map_eq_some_iff] at hk
        obtain ⟨q, hq, rfl⟩ := hk
        exact (h3 i q.1 q.2 e hq he).1
    rcases asMap_ok hS ho h with ⟨l, rfl, h, hM⟩ | ⟨l, rfl, h, hM⟩
    · cases h
      exact fin _ (by simp) (by simp [Function.comp_def]) hM
    · cases h
      exact fin _ (by simp) (by simp) hM
  · left
    cases h
    obtain ⟨hr, _⟩ := hr
    cases hr
    exact ⟨rfl, rfl, rfl⟩
theorem appendA_row {s : Nat} {a : AV} {e : Ob} {M : Mem} {r : AV × Mem} (h : appendA s a e M = some r) : ∃ id t i n, r.1 = .row id t i n := by
  cases a <;> try (cases h; done)
  · cases h; exact ⟨_, _, _, _, rfl⟩
  · cases h; exact ⟨_, _, _, _, rfl⟩
  · rename_i id t i n
    obtain ⟨_, h⟩ := bf_some.1 (show bf (Nat.beq s t) (some (AV.row M.next s 0 (sizeO e), Mem.new ⟨M.next, setO id .dead M.objs⟩ e)) none = some r from h)
    cases h
    exact ⟨_, _, _, _, rfl⟩
theorem app_row {s : AV} {k : List Nat} {M : Mem} {r : AV × Mem} (h : evE (.append 1 (.res 0) (.res 1)) [] [s, .lit [[.str k]]] M = some r) : ∃ id t i n, r.1 = .row id t i n := by
  simp only [evE, ob_some] at h
  obtain ⟨va, hva, vb, hvb, n, hn, ea, hea, eb, heb, he⟩ := h
  cases hvb
  cases heb
  have he : bf (sizedO 1 ea) (bf (sizedO 1 (.pr [[.str k]])) (bf (Nat.blt (sizeO ea + sizeO (.pr [[.str k]])) 16777216) (ob (appendO ea (.pr [[.str k]])) fun e => appendA 1 va e M) none) none) none = some r := he
  obtain ⟨_, he⟩ := bf_some.1 he
  obtain ⟨_, he⟩ := bf_some.1 he
  obtain ⟨_, he⟩ := bf_some.1 he
  obtain ⟨_, _, he⟩ := ob_some.1 he
  exact appendA_row he
theorem ext91_ok {vs : List AV} {M M' : Mem} {r : Rs} (h : ext91 vs M = some (r, M')) : RunOk Tryz.prog 101 vs M r M' := by
  intro G w xs hS hRL
  unfold ext91 at h
  split at h <;> try (cases h; done)
  rename_i s f b
  obtain ⟨hf, h⟩ := bf_some.1 h
  have hf := Nat.eq_of_beq_eq_true hf
  subst hf
  obtain ⟨sn, hsn, h⟩ := ob_some.1 h
  obtain ⟨m, hm, h⟩ := ob_some.1 h
  obtain ⟨ks, hks, h⟩ := ob_some.1 h
  obtain ⟨x1, x2, rfl⟩ : ∃ x1 x2, xs = [x1, x2] := by
    have := hRL.1
    match xs, this with
    | [x1, x2], _ => exact ⟨x1, x2, rfl⟩
  have hx1 := hRL.2 0 _ x1 rfl rfl
  have hx2 := hRL.2 1 _ x2 rfl rfl
  obtain ⟨sa, sc, rfl, hcap⟩ := lenS_ok hx1 hsn
  obtain ⟨ys, zs, rfl, hy, hz⟩ := hx2.fn
  obtain rfl : ys = [] := List.length_eq_zero_iff.1 hy.1.symm
  obtain ⟨z, rfl⟩ : ∃ z, zs = [z] := by
    have := hz.1
    match zs, this with
    | [z], _ => exact ⟨z, rfl⟩
  have hzr := hz.2 0 _ z rfl rfl
  obtain ⟨y, bb, bo, rfl, hcell, hyr⟩ := loadA_cell hS hzr hm
  have hbb := cell_lt hcell
  have hkeys := keysA_ok (P := Tryz.prog) hS hyr hks
  have hK : Known Tryz.prog 101 := ⟨_, Tryz.func101, by kernel_rfl, by kernel_rfl⟩
  have hcell' : ∀ {W : World}, Ev (fun _ => False) w W → W.cell? ⟨bb, bo, none⟩ = some y := fun h => h.cell hcell fun h => h
  have hsz : ∀ {W : World}, Ev (fun _ => False) w W → bb < W.heap.size := fun h => Nat.lt_of_lt_of_le hbb h.size
  have none_case : ∀ {mm : Option Nat}, y = .map mm → (∀ bm, mm = some bm → ∃ ck, w.heap[bm]? = some (.map #[] ck)) → ks = [] → r = .ret s → M' = M → Known Tryz.prog 101 ∧ Calls Tryz.prog 101 ⟨[.slice sa sn sc, .func (.func 156) ⟨[]⟩ ⟨[.pointer (some ⟨bb, bo, none⟩)]⟩]⟩ w fun e w' => ∃ G', Post M.objs (Lt M.next) G w M'.objs (Lt M'.next) G' w' ∧ M.next ≤ M'.next ∧ EndOk r e (R w' (Own M'.objs G') G' (Lt M'.next)) := by
    rintro mm rfl hmm rfl rfl rfl
    refine ⟨hK, t91 [] (by simp) sa sn sc ⟨bb, bo, none⟩ ⟨#[]⟩ w (fun _ _ _ _ => False) _ (Lib.hid fun W hE => it145_none bb bo mm _ W (hsz hE) (hcell' hE) fun bm h => ?_) (Lib.hid (by simp)) (Lib.hid fun _ W hE => ?_) (Lib.hid (by simp))⟩
    · obtain ⟨ck, hck⟩ := hmm bm h
      exact ⟨ck, (hE.keep _ (Array.getElem?_eq_some_iff.1 hck).1 fun h => h).trans hck⟩
    · obtain ⟨h1, h2⟩ := hS.box hE (X' := G.X) (fun b hb => Nat.lt_of_lt_of_le (hS.ltX b hb) hE.size) (fun b hb _ => hb) fun b hb => hb
      exact ⟨G, ⟨h1, hE.mono fun _ h => h.elim, rfl, fun _ h => h, fun _ _ => rfl, fun _ _ h => h⟩, Nat.le_refl _, _, rfl, h2 _ _ hx1⟩
  split at h
  · cases h
    rcases hkeys with ⟨rfl, _, rfl⟩ | ⟨id, o, es, ck, rfl, rfl, hal, hb, hsz', _⟩
    · exact none_case rfl (by simp) rfl rfl rfl
    · refine none_case rfl (fun bm hbm => ?_) rfl rfl rfl
      cases hbm
      have : es = #[] := Array.eq_empty_of_size_eq_zero (by simpa using hsz'.1)
      subst this
      exact ⟨ck, hb⟩
  · rename_i k
    obtain ⟨r0, hr0, h⟩ := ob_some.1 h
    cases h
    rcases hkeys with ⟨rfl, h, _⟩ | ⟨id, o, es, ck, rfl, rfl, hal, hb, hsz', hkey⟩
    · cases h
    obtain ⟨e, rfl⟩ : ∃ e, es = #[e] := by
      have := hsz'.1
      match es, this with
      | ⟨[e]⟩, _ => exact ⟨e, rfl⟩
    have hk := hkey 0 _ e rfl rfl
    have hborn := hsz'.2 0 e rfl
    have hbm := (hS.lt id o hal).2
    obtain ⟨ek, ev, eb⟩ := e
    simp only at hk
    cases hk with
    | str _ kb hkb =>
    refine ⟨hK, t91 [()] (by simp) sa sn sc ⟨bb, bo, none⟩ kb w (fun n1 W1 v W2 => ∃ B' G', Post M.objs (Lt M.next) ⟨G.f, fun b => G.X b ∨ (w.heap.size ≤ b ∧ b < n1)⟩ W1 r0.2.objs B' G' W2 ∧ R W2 (Own r0.2.objs G') G' B' r0.1 v ∧ (∀ i, B' i → Lt r0.2.next i) ∧ M.next ≤ r0.2.next) _
      (Lib.hid fun W hE => it145_one bb bo (G id).b ck _ W (hsz hE) (Nat.lt_of_lt_of_le hbm hE.size) (hcell' hE) ((hE.keep _ hbm fun h => h).trans hb) hborn) (Lib.hid fun _ n1 W1 hn1 hE hW1 hlit => ?_) (Lib.hid (by simp)) (Lib.hid fun _ v W => ?_)⟩
    · obtain ⟨hS1, hR1⟩ := hS.box hE (X' := fun b => G.X b ∨ (w.heap.size ≤ b ∧ b < n1)) (fun b hb => by
        rcases hb with hb | ⟨_, hb⟩
        · exact Nat.lt_of_lt_of_le (hS.ltX b hb) hE.size
        · omega) (fun b hb hlt => hb.resolve_right (by omega)) fun b hb => .inl hb
      have hlt : ∀ id o, Alive M.objs id o → (G.f id).b < w.heap.size := fun id o h => (hS.lt id o h).2
      have hnot : ∀ b, w.heap.size ≤ b → ¬ Mut M.objs ⟨G.f, fun b => G.X b ∨ (w.heap.size ≤ b ∧ b < n1)⟩ b := by
        rintro b hb' ⟨id, o, h1, h2⟩
        have := hlt id o h1
        have h2 : (G.f id).b = b := h2
        omega
      have hnO : ¬ Own M.objs ⟨G.f, fun b => G.X b ∨ (w.heap.size ≤ b ∧ b < n1)⟩ n1 := by
        rintro ((h | h) | h)
        · have := hS.ltX _ h; omega
        · omega
        · exact hnot n1 hn1 h
      have hlitR : R W1 (Own M.objs ⟨G.f, fun b => G.X b ∨ (w.heap.size ≤ b ∧ b < n1)⟩) ⟨G.f, fun b => G.X b ∨ (w.heap.size ≤ b ∧ b < n1)⟩ (Lt M.next) (.lit [[.str k]]) (.slice (some ⟨n1, 0, none⟩) 1 1) := by
        refine ⟨.lit [[.str k]] _ (Fz.rel (s := 1) ⟨by omega, hnO, fun i c hc => ?_, fun i j c v hc hv => ?_⟩ (Nat.le_refl _)), fun r hr => by simp at hr⟩
        · match i, hc with
          | 0, hc => cases hc; rfl
        · match i, j, hc, hv with
          | 0, 0, hc, hv =>
            cases hc
            cases hv
            exact ⟨.string kb, Lib.cell_of_heap hlit 0, rfl, .str _ _ hkb⟩
          | 0, j + 1, hc, hv => cases hc; simp at hv
      obtain ⟨B', hB', x, W2, G', hrun, hP, hRx, hwk⟩ := app_two hS1 (hR1 _ _ hx1) hlitR (fun h => Nat.lt_irrefl _ h) hr0
      have hxs : ∃ va vn vc, x = .slice va vn vc := by
        obtain ⟨id, t, i, n, hrow⟩ := app_row hr0
        rw [hrow] at hRx
        obtain ⟨hRx, _⟩ := hRx
        cases hRx <;> exact ⟨_, _, _, rfl⟩
      obtain ⟨va, vn, vc, rfl⟩ := hxs
      refine ⟨va, vn, vc, W2, hrun, ⟨B', G', hP, hRx, ?_, ?_⟩, hP.ev.size, ⟨hP.ev.os, hP.ev.tape, hP.ev.output⟩, hwk, fun b h1 h2 => hP.ev.keep b (by omega) (hnot b h1)⟩
      · rcases hB' with ⟨h1, rfl⟩ | ⟨h1, rfl⟩
        · intro i hi; rw [h1]; exact hi
        · intro i hi
          show i < _
          rw [h1]
          rcases hi with hi | hi
          · exact Nat.lt_succ_of_lt hi
          · omega
      · rcases hB' with ⟨h1, rfl⟩ | ⟨h1, rfl⟩ <;> omega
    · rintro ⟨n1, W1, W2, hn1, hE, hW1, ⟨B', G', hP, hRx, hBl, hle⟩, _, _, hE'⟩
      obtain ⟨h1, h2⟩ := Post.boxedS hS hE (fun b hb => hb.1) hP hE'
      refine ⟨_, { st := h1.st.weaken hBl, ev := h1.ev, same := h1.same, next := fun i hi => hBl i (h1.next i hi), agree := h1.agree, own := h1.own }, hle, _, rfl, (h2 _ _ hRx).weaken hBl⟩
  · cases h
end Go.Ab
namespace Go.Ab
set_option maxRecDepth 8000
open Go.Proofs Go.RowKit
open Go.ChangeMaps (setBlock)
set_option linter.unusedVariables false
set_option linter.unusedSimpArgs false
theorem asCnt_some {v : AV} {n : Nat} (h : asCnt v = some n) : v = .p (.int .i64 (Int.ofNat n)) := by
  unfold asCnt at h
  split at h <;> cases h
  rfl
section
variable {objs : Objs} {B : Nat → Prop} {G : Gm} {w : World}
theorem cx_two {va vb vc : AV} {xa xb xc : Value} (ha : R w (Own objs G) G B va xa) (hb : R w (Own objs G) G B vb xb) (hc : R w (Own objs G) G B vc xc) :
    Cx (fun t => if t = 0 then some (.res 0) else if t = 1 then some (.res 1) else if t = 2 then some (.res 2) else none) [] [va, vb, vc] ⟨#[xa, xb, xc], []⟩ w (Own objs G) G B := by
  intro t o v ht ho
  simp only at ht
  split at ht
  · cases ht
    rename_i h
    subst h
    simp [opd] at ho
    subst ho
    exact ha
  · split at ht
    · cases ht
      rename_i h
      subst h
      simp [opd] at ho
      subst ho
      exact hb
    · split at ht <;> cases ht
      rename_i h
      subst h
      simp [opd] at ho
      subst ho
      exact hc
/-- A look-up of a string. -/
theorem lk_two (hS : St objs B G w) {t e : TypeId} {z va vb v : AV} {xa xb : Value} (ht : Tryz.prog.underlying t = some (.map 9 e)) (hk : keyK Tryz.prog t = some 2) (hz : zeroV Tryz.prog e = some z) (ha : R w (Own objs G) G B va xa) (hb : R w (Own objs G) G B vb xb) (h : lkA z va vb objs = some v) :
    ∃ y, (Instr.lookup t xa xb false).run Tryz.prog w = .ok y w ∧ R w (Own objs G) G B v y :=
  ok_lookup (P := Tryz.prog) (m := .tmp 0) (k := .tmp 1) hS (cx_two ha hb R.undef) ht hk hz rfl rfl (by exact h)
theorem set_two (hS : St objs B G w) {va vb vc : AV} {xa xb xc : Value} {nx : Nat} {r : AV × Mem} (ha : R w (Own objs G) G B va xa) (hb : R w (Own objs G) G B vb xb) (hc : R w (Own objs G) G B vc xc) (h : evE (.mapSet 2 (.res 0) (.res 1) (.res 2)) [] [va, vb, vc] ⟨nx, objs⟩ = some r) :
    r.2.next = nx ∧ ∃ w' G', (Instr.mapUpdate 155 xa xb xc).run Tryz.prog w = .ok () w' ∧ Post objs B G w r.2.objs B G' w' ∧ R w' (Own r.2.objs G') G' B r.1 undef ∧ ∀ b b' : Nat, xa = .map (some b) → b' ≠ b → w'.heap[b']? = w.heap[b']? :=
  eok_mapSetW (P := Tryz.prog) (t := 155) (m := .tmp 0) (k := .tmp 1) (x := .tmp 2) hS (cx_two ha hb hc) (by kernel_rfl) rfl rfl rfl h
theorem End93.mono {pa : Addr} {sb : ByteArray} {R R' : Ending → World → Prop} {q : Int} {W : World} (h : End93 pa sb R q W) (hR : ∀ e w', R e w' → R' e w') : End93 pa sb R' q W := by
  obtain ⟨kb, W3, kb3, v, h1, h2, h3, h4, h5⟩ := h
  exact ⟨kb, W3, kb3, v, h1, h2, h3, h4, hR _ _ h5⟩
theorem R.int_val {O : Bl} {n : Nat → Prop} {k : IntKind} {i : Int} {y : Value} (h : R w O G n (.p (.int k i)) y) : y = .int k i := by
  obtain ⟨h, _⟩ := h
  cases h with
  | p _ _ h => cases h; rfl
theorem R.map_val {O : Bl} {n : Nat → Prop} {id : Nat} {y : Value} (h : R w O G n (.map id) y) : y = .map (some (G id).b) := by
  obtain ⟨h, _⟩ := h
  cases h
  rfl
theorem endA_ok {k : Nat} (hS : St objs (Lt k) G w) {kid q : Nat} {a v : AV} {s : List Nat} {M' : Mem} {pa : Addr} {sb : ByteArray} (ha : R w (Own objs G) G (Lt k) a (.pointer (some pa))) (hs : R w (Own objs G) G (Lt k) (.p (.str s)) (.string sb)) (h : endA kid a s q ⟨k, objs⟩ = some (v, M')) :
    M'.next = k ∧ ∃ n : Nat, v = .p (.int .i64 (Int.ofNat n)) ∧ End93 pa sb (fun e w' => e = .returned (.int .i64 (Int.ofNat n)) ∧ ∃ G', Post objs (Lt k) G w M'.objs (Lt k) G' w' ∧ ∀ b, b ≠ (G kid).b → w'.heap[b]? = w.heap[b]?) (Int.ofNat q) w := by
  unfold endA at h
  obtain ⟨kn, hkn, g1⟩ := ob_some.1 h
  clear h
  rcases mapCases_some g1 with ⟨kid', rfl, g2⟩ | ⟨_, g2⟩ <;> try (cases g2; done)
  clear g1
  obtain ⟨hk, g3⟩ := bf_some.1 g2
  clear g2
  obtain rfl := Nat.eq_of_beq_eq_true hk
  obtain ⟨r0, hr0, g4⟩ := ob_some.1 g3
  clear g3
  obtain ⟨kn2, hkn2, g5⟩ := ob_some.1 g4
  clear g4
  rcases mapCases_some g5 with ⟨kid2, rfl, g6⟩ | ⟨_, g6⟩ <;> try (cases g6; done)
  clear g5
  obtain ⟨u, hu, g7⟩ := ob_some.1 g6
  clear g6
  obtain ⟨n, hn, h⟩ := ob_some.1 g7
  clear g7
  cases h
  have hn := asCnt_some hn
  subst hn
  obtain ⟨y1, b1, o1, e1, c1, r1⟩ := loadA_cell hS ha hkn
  cases e1
  obtain rfl := r1.map_val
  obtain ⟨hnx, W3, G3, hrun, hP, _, hoth⟩ := set_two hS r1 hs (R.p (.int .i64 (Int.ofNat (q + 1)))) hr0
  obtain ⟨y2, b2, o2, e2, c2, r2⟩ := loadA_cell hP.st (hP.r ha) hkn2
  cases e2
  obtain rfl := r2.map_val
  obtain ⟨y3, hl, r3⟩ := lk_two hP.st (t := 155) (e := 3) (by kernel_rfl) (by kernel_rfl) (by kernel_rfl) r2 (hP.r hs) hu
  obtain rfl := r3.int_val
  exact ⟨hnx, n, rfl, _, W3, _, _, c1, hrun, c2, hl, rfl, G3, hP, fun b hb => hoth _ b rfl hb⟩
end
theorem lkA_alive {z k v : AV} {id : Nat} {objs : Objs} (h : lkA z (.map id) k objs = some v) : ∃ o, Alive objs id o := by
  unfold lkA at h
  simp only [evP, ob_some, bf_some] at h
  obtain ⟨um, hum, uk, huk, pk, hpk, hkind, he⟩ := h
  cases hum
  rcases mapCases_some he with ⟨id', e, he⟩ | ⟨e, he⟩ <;> cases e
  obtain ⟨o, ho, he⟩ := ob_some.1 he
  refine ⟨o, ho, ?_⟩
  rintro rfl
  cases he
theorem endA_some {kid q : Nat} {a v : AV} {s : List Nat} {M M' : Mem} (h : endA kid a s q M = some (v, M')) : (∃ n : Nat, v = .p (.int .i64 (Int.ofNat n))) ∧ M'.next = M.next := by
  unfold endA at h
  obtain ⟨kn, hkn, g1⟩ := ob_some.1 h
  clear h
  rcases mapCases_some g1 with ⟨kid', rfl, g2⟩ | ⟨_, g2⟩ <;> try (cases g2; done)
  clear g1
  obtain ⟨hk, g3⟩ := bf_some.1 g2
  clear g2
  obtain ⟨r0, hr0, g4⟩ := ob_some.1 g3
  clear g3
  obtain ⟨kn2, hkn2, g5⟩ := ob_some.1 g4
  clear g4
  rcases mapCases_some g5 with ⟨kid2, rfl, g6⟩ | ⟨_, g6⟩ <;> try (cases g6; done)
  clear g5
  obtain ⟨u, hu, g7⟩ := ob_some.1 g6
  clear g6
  obtain ⟨n, hn, h⟩ := ob_some.1 g7
  clear g7
  cases h
  refine ⟨⟨n, rfl⟩, ?_⟩
  simp only [evE, ob_some, bf_some] at hr0
  obtain ⟨um, hum, uk, huk, ux, hux, pk, hpk, hkind, he⟩ := hr0
  rcases mapCases_some he with ⟨id', e, he⟩ | ⟨e, he⟩ <;> try (cases he; done)
  obtain ⟨M2, hM2, he⟩ := ob_some.1 he
  cases he
  obtain ⟨o, o', l, l', ho, h1, h2, hput, rfl⟩ := mapUpd_some hM2
  rfl
/-- What holds of a count. -/
def DOk (D : List AV → Mem → Option (AV × Mem)) : Prop :=
  ∀ args M r M', D args M = some (r, M') → ∃ kid s a b d q, args = [.p (.str s), a, b, d] ∧ loadA M.objs none a = some (.map kid) ∧ M'.next = M.next ∧ r = .p (.int .i64 (Int.ofNat q)) ∧
    ∀ (G : Gm) (w : World) (xs : List Value), St M.objs (Lt M.next) G w → RL w (Own M.objs G) G (Lt M.next) args xs → Calls Tryz.prog 103 ⟨xs⟩ w fun e w' => e = .returned (.int .i64 (Int.ofNat q)) ∧
      ∃ G', Post M.objs (Lt M.next) G w M'.objs (Lt M.next) G' w' ∧ ∀ b, b < w.heap.size → b ≠ (G kid).b → w'.heap[b]? = w.heap[b]?
set_option maxHeartbeats 2000000 in
theorem step_ok {D : List AV → Mem → Option (AV × Mem)} (hD : DOk D) : DOk (depthStep D) := by
  intro args M r M' h
  unfold depthStep at h
  split at h <;> try (cases h; done)
  rename_i s a b d
  obtain ⟨kn, hkn, h⟩ := ob_some.1 h
  obtain ⟨gr, hgr, h⟩ := ob_some.1 h
  obtain ⟨f, hf, h⟩ := ob_some.1 h
  rcases mapCases_some h with ⟨kid, rfl, h⟩ | ⟨_, h⟩ <;> try (cases h; done)
  obtain ⟨n0, hn0, g1⟩ := ob_some.1 h
  clear h
  obtain ⟨n, hn, h⟩ := ob_some.1 g1
  clear g1
  obtain rfl := asCnt_some hn
  -- what the arguments are
  have front : ∀ (G : Gm) (w : World) (xs : List Value), St M.objs (Lt M.next) G w → RL w (Own M.objs G) G (Lt M.next) [.p (.str s), a, b, d] xs →
      ∃ sb pa pb pd, xs = [.string sb, .pointer (some pa), .pointer (some pb), .pointer (some pd)] ∧ R w (Own M.objs G) G (Lt M.next) (.p (.str s)) (.string sb) ∧ R w (Own M.objs G) G (Lt M.next) a (.pointer (some pa)) ∧
        R w (Own M.objs G) G (Lt M.next) b (.pointer (some pb)) ∧ R w (Own M.objs G) G (Lt M.next) d (.pointer (some pd)) ∧ w.cell? pa = some (.map (some (G kid).b)) ∧ (∃ gy, w.cell? pb = some gy ∧ R w (Own M.objs G) G (Lt M.next) gr gy) ∧
        (∃ fy, w.cell? pd = some fy ∧ R w (Own M.objs G) G (Lt M.next) f fy) ∧ (Instr.lookup 155 (.map (some (G kid).b)) (.string sb) false).run Tryz.prog w = .ok (.int .i64 (Int.ofNat n)) w := by
    intro G w xs hS hRL
    obtain ⟨x0, x1, x2, x3, rfl⟩ : ∃ x0 x1 x2 x3, xs = [x0, x1, x2, x3] := by
      have := hRL.1
      match xs, this with
      | [x0, x1, x2, x3], _ => exact ⟨x0, x1, x2, x3, rfl⟩
    have h0 := hRL.2 0 _ x0 rfl rfl
    have h1 := hRL.2 1 _ x1 rfl rfl
    have h2 := hRL.2 2 _ x2 rfl rfl
    have h3 := hRL.2 3 _ x3 rfl rfl
    obtain ⟨sb, rfl⟩ : ∃ sb, x0 = .string sb := by
      obtain ⟨h0, _⟩ := h0
      cases h0 with
      | p _ _ h => cases h; exact ⟨_, rfl⟩
    obtain ⟨y1, b1, o1, rfl, c1, r1⟩ := loadA_cell hS h1 hkn
    obtain ⟨y2, b2, o2, rfl, c2, r2⟩ := loadA_cell hS h2 hgr
    obtain ⟨y3, b3, o3, rfl, c3, r3⟩ := loadA_cell hS h3 hf
    obtain rfl := r1.map_val
    obtain ⟨y, hl, hy⟩ := lk_two hS (t := 155) (e := 3) (by kernel_rfl) (by kernel_rfl) (by kernel_rfl) r1 h0 hn0
    obtain rfl := hy.int_val
    exact ⟨sb, _, _, _, rfl, h0, h1, h2, h3, c1, ⟨_, c2, r2⟩, ⟨_, c3, r3⟩, hl⟩
  cases hb : Nat.beq n 0 with
  | false =>
    rw [hb] at h
    cases h
    refine ⟨kid, s, a, b, d, n, rfl, hkn, rfl, rfl, fun G w xs hS hRL => ?_⟩
    obtain ⟨sb, pa, pb, pd, rfl, h0, h1, h2, h3, c1, _, _, hl⟩ := front G w xs hS hRL
    refine w93_known sb pa pb pd _ (Int.ofNat n) w _ c1 hl ?_ ⟨rfl, G, .refl hS, fun _ _ _ => rfl⟩
    intro he
    have : n = 0 := by simpa using he
    subst this
    cases hb
  | true =>
    rw [hb] at h
    obtain rfl := Nat.eq_of_beq_eq_true hb
    have g1 : mapCases gr _ none = some (r, M') := h
    clear h
    rcases mapCases_some g1 with ⟨gid, rfl, g2⟩ | ⟨_, g2⟩ <;> try (cases g2; done)
    clear g1
    obtain ⟨g, hg, g3⟩ := ob_some.1 g2
    clear g2
    obtain ⟨ks, hks, h⟩ := ob_some.1 g3
    clear g3
    have noise : ∀ {G : Gm} {w w1 : World}, St M.objs (Lt M.next) G w → Ev (fun _ => False) w w1 → St M.objs (Lt M.next) G w1 ∧ ∀ v x, R w (Own M.objs G) G (Lt M.next) v x → R w1 (Own M.objs G) G (Lt M.next) v x :=
      fun {G w w1} hS hE => hS.box hE (X' := G.X) (fun b hb => Nat.lt_of_lt_of_le (hS.ltX b hb) hE.size) (fun b hb _ => hb) fun b hb => hb
    have noiseP : ∀ {G G' : Gm} {w w1 w2 : World} {objs' : Objs}, St M.objs (Lt M.next) G w → Ev (fun _ => False) w w1 → Post M.objs (Lt M.next) G w1 objs' (Lt M.next) G' w2 → Post M.objs (Lt M.next) G w objs' (Lt M.next) G' w2 :=
      fun {G G' w w1 w2 objs'} hS hE hP => ⟨hP.st, (hE.mono fun _ h => h.elim).trans hP.ev fun _ _ h => h, hP.same, hP.next, hP.agree, fun b hb k => hP.own b (Nat.lt_of_lt_of_le hb hE.size) k⟩
    split at h
    · -- no callee
      obtain ⟨⟨n, rfl⟩, hnx⟩ := endA_some h
      refine ⟨kid, s, a, b, d, n, rfl, hkn, hnx, rfl, fun G w xs hS hRL => ?_⟩
      obtain ⟨sb, pa, pb, pd, rfl, h0, h1, h2, h3, c1, ⟨gy, c2, r2⟩, _, hl⟩ := front G w xs hS hRL
      obtain rfl := r2.map_val
      obtain ⟨y, hl2, r3⟩ := lk_two hS (t := 179) (e := 167) (by kernel_rfl) (by kernel_rfl) (by kernel_rfl) r2 h0 hg
      obtain ⟨mm, it, rfl, hrg, hnxt⟩ : ∃ mm it, y = .map mm ∧ (Instr.range 167 (.map mm)).run Tryz.prog w = .ok (.pointer (some ⟨w.heap.size, 0, none⟩)) (w.alloc it) ∧ ∀ ty, (Instr.next (.pointer (some ⟨w.heap.size, 0, none⟩)) false ty).run Tryz.prog (w.alloc it) = .ok (.tuple #[.bool false]) (w.alloc it) := by
        rcases keysA_ok (P := Tryz.prog) hS r3 hks with ⟨rfl, _, rfl⟩ | ⟨id, o, es, ck, rfl, rfl, hal, hb', hsz', _⟩
        · exact ⟨none, _, rfl, run_range_nilMap w 167 9 4 (by kernel_rfl), fun ty => next_nil _ ty _ 0 0 #[] (World.alloc_heap_new _ _)⟩
        · have : es = #[] := Array.eq_empty_of_size_eq_zero (by simpa using hsz'.1)
          subst this
          have hlt := (Array.getElem?_eq_some_iff.1 hb').1
          exact ⟨some _, _, rfl, run_range_map w 167 9 4 _ #[] ck (by kernel_rfl) hb', fun ty => next_none _ ty _ _ ck (World.alloc_heap_new _ _) ((Below.heap_alloc _ _ _ hlt).trans hb')⟩
      have hE := alloc_ev w it
      obtain ⟨hS1, hL⟩ := noise hS hE
      obtain ⟨_, n', e1, hend⟩ := endA_ok (k := M.next) (objs := M.objs) hS1 (hL _ _ h1) (hL _ _ h0) h
      refine w93_none sb pa pb pd _ _ mm w it _ c1 hl c2 hl2 hrg hnxt (hend.mono fun e w' => ?_)
      rintro ⟨rfl, G', hP, ho⟩
      cases e1
      exact ⟨rfl, G', noiseP hS hE hP, fun b hb hne => (ho b hne).trans (hE.keep b hb fun h => h)⟩
    · -- one callee
      rename_i k
      rcases mapCases_some h with ⟨gm, rfl, g1⟩ | ⟨_, g1⟩ <;> try (cases g1; done)
      clear h
      obtain ⟨hgk, g2⟩ := bf_some'.1 g1
      clear g1
      split at g2 <;> try (cases g2; done)
      rename_i ff a' b' d'
      obtain ⟨hff, g3⟩ := bf_some.1 g2
      clear g2
      obtain rfl := Nat.eq_of_beq_eq_true hff
      obtain ⟨kn', hkn', g4⟩ := ob_some.1 g3
      clear g3
      rcases mapCases_some g4 with ⟨kid', rfl, g5⟩ | ⟨_, g5⟩ <;> try (cases g5; done)
      clear g4
      obtain ⟨hkk, g6⟩ := bf_some.1 g5
      clear g5
      obtain rfl := Nat.eq_of_beq_eq_true hkk
      obtain ⟨⟨r1, M1⟩, hr1, g7⟩ := ob_some.1 g6
      clear g6
      obtain ⟨q, hq, g8⟩ := ob_some.1 g7
      clear g7
      obtain ⟨hq9, h⟩ := bf_some.1 g8
      clear g8
      have hq9 : q < 1000000000 := by simpa using hq9
      obtain ⟨kid2, s2, a2, b2, d2, q2, e1, e2, hn1, e3, hcall⟩ := hD _ _ _ _ hr1
      cases e1
      rw [hkn'] at e2
      cases e2
      have e4 := asCnt_some hq
      have e4 : r1 = _ := e4
      rw [e3] at e4
      cases e4
      obtain ⟨⟨n, rfl⟩, hnx⟩ := endA_some h
      refine ⟨kid', s, a, b, d, n, rfl, hkn, hnx.trans hn1, rfl, fun G w xs hS hRL => ?_⟩
      obtain ⟨sb, pa, pb, pd, rfl, h0, h1, h2, h3, c1, ⟨gy, c2, r2⟩, ⟨fy, c3, r3⟩, hl⟩ := front G w xs hS hRL
      obtain rfl := r2.map_val
      obtain ⟨y, hl2, ry⟩ := lk_two hS (t := 179) (e := 167) (by kernel_rfl) (by kernel_rfl) (by kernel_rfl) r2 h0 hg
      obtain rfl := ry.map_val
      rcases keysA_ok (P := Tryz.prog) hS ry hks with ⟨hh, _, _⟩ | ⟨id, o, es, ck, hid, hy, hal, hbm, hsz', hkey⟩
      · cases hh
      cases hid
      obtain ⟨e, rfl⟩ : ∃ e, es = #[e] := by
        have := hsz'.1
        match es, this with
        | ⟨[e]⟩, _ => exact ⟨e, rfl⟩
      have hk := hkey 0 _ e rfl rfl
      have hborn := hsz'.2 0 e rfl
      have hbmlt := (hS.lt gm o hal).2
      obtain ⟨zs0, zs, rfl, hz0, hz⟩ := r3.fn
      obtain rfl : zs0 = [] := List.length_eq_zero_iff.1 hz0.1.symm
      obtain ⟨z1, z2, z3, rfl⟩ : ∃ z1 z2 z3, zs = [z1, z2, z3] := by
        have := hz.1
        match zs, this with
        | [z1, z2, z3], _ => exact ⟨z1, z2, z3, rfl⟩
      obtain ⟨ko, hko⟩ := lkA_alive hn0
      have hkidlt := (hS.lt _ _ hko).2
      have hkid : Lt M.next kid' := (hS.lt _ _ hko).1
      have hne : (G gm).b ≠ (G kid').b := fun he => by
        have := hS.inj _ _ _ _ hal hko he
        subst this
        simp at hgk
      have hE0 := alloc_ev w (.mapIter (some (G gm).b) ck #[] ck)
      have hit : (w.alloc (.mapIter (some (G gm).b) ck #[] ck)).heap[w.heap.size]? = some (.mapIter (some (G gm).b) ck #[] ck) := World.alloc_heap_new _ _
      have hlt1 : w.heap.size < (w.alloc (.mapIter (some (G gm).b) ck #[] ck)).heap.size := (Array.getElem?_eq_some_iff.1 hit).1
      have hE : Ev (fun _ => False) w (setBlock (w.alloc (.mapIter (some (G gm).b) ck #[] ck)) w.heap.size (.mapIter (some (G gm).b) ck #[e.born] ck)) := ev_none_grown hE0 (setBlock_grown _ _ _) fun r h => by cases h; exact Nat.le_refl _
      have hit2 := setBlock_same (w := w.alloc (.mapIter (some (G gm).b) ck #[] ck)) (o := .mapIter (some (G gm).b) ck #[e.born] ck) hlt1
      obtain ⟨hS1, hL⟩ := noise hS hE
      have hargs : RL (setBlock (w.alloc (.mapIter (some (G gm).b) ck #[] ck)) w.heap.size (.mapIter (some (G gm).b) ck #[e.born] ck)) (Own M.objs G) G (Lt M.next) [.p (.str k), a', b', d'] [e.key, z1, z2, z3] :=
        RL.cons (hL _ _ (R.p hk)) ⟨hz.1, fun i v x h1 h2 => hL _ _ (hz.2 i v x h1 h2)⟩
      have hC := hcall G _ _ hS1 hargs
      have hsz1 : w.heap.size < (setBlock (w.alloc (.mapIter (some (G gm).b) ck #[] ck)) w.heap.size (.mapIter (some (G gm).b) ck #[e.born] ck)).heap.size := (Array.getElem?_eq_some_iff.1 hit2).1
      refine w93_one sb pa pb pd z1 z2 z3 _ _ _ ck e w _ c1 hl c2 hl2 hbm hborn (hE.cell c3 fun h => h) (hC.mono fun e2 W2 => ?_)
      rintro ⟨rfl, G', hP, ho⟩
      obtain ⟨_, n', e5, hend⟩ := endA_ok (k := M.next) (objs := M1.objs) hP.st (hP.r (hL _ _ h1)) (hP.r (hL _ _ h0)) (by rw [← hn1]; exact h)
      refine ⟨q, hq9, rfl, (ho _ hsz1 (by omega)).trans hit2, (ho _ (Nat.lt_of_lt_of_le hbmlt hE.size) hne).trans ((hE.keep _ hbmlt fun h => h).trans hbm), hend.mono fun e3 w' => ?_⟩
      rintro ⟨rfl, G2, hP2, ho2⟩
      cases e5
      refine ⟨rfl, G2, noiseP hS hE (hP.trans hP2), fun b hb hne' => ?_⟩
      rw [ho2 b (by rw [hP.agree kid' hkid]; exact hne'), ho b (Nat.lt_of_lt_of_le hb hE.size) hne', hE.keep b hb fun h => h]
    · cases h
theorem depth_ok : ∀ n, DOk (depthA n)
  | 0 => fun _ _ _ _ h => by cases h
  | n + 1 => step_ok (depth_ok n)
theorem ext93_ok {vs : List AV} {M M' : Mem} {r : Rs} (h : ext93 vs M = some (r, M')) : RunOk Tryz.prog 103 vs M r M' := by
  intro G w xs hS hRL
  unfold ext93 at h
  obtain ⟨⟨r0, M0⟩, h0, h⟩ := ob_some.1 h
  cases h
  obtain ⟨kid, s, a, b, d, q, rfl, _, hn, hr, hC⟩ := depth_ok 64 _ _ _ _ h0
  refine ⟨⟨_, Tryz.func103, by kernel_rfl, by kernel_rfl⟩, (hC G w xs hS hRL).mono fun e w' => ?_⟩
  rintro ⟨rfl, G', hP, _⟩
  have hr : r0 = _ := hr
  subst hr
  have hn : M0.next = M.next := hn
  rw [hn]
  exact ⟨G', hP, Nat.le_refl _, _, rfl, R.p (.int _ _)⟩
end Go.Ab
