/- slices.AppendSeq of maps.Keys, in the evaluator's words. -/
import Derived.Test.YtmhjnndhphidfaaGreatQ1
import Derived.Test.YtmhjnndhphidfaaGreatA8
namespace Go.Ab
set_option maxRecDepth 8000
open Go.Proofs Go.RowKit
set_option linter.unusedVariables false
set_option linter.unusedSimpArgs false
section
variable {objs objs1 : Objs} {Ba B1 : Nat → Prop} {G G1 : Gm} {w w1 W W' : World}
/-- A call between some boxes' making and their end. -/
theorem Post.boxedS {K : Bl} (hS : St objs Ba G w) (hE : Ev (fun _ => False) w w1) (hK : ∀ b, K b → w.heap.size ≤ b) (hP : Post objs Ba ⟨G.f, fun b => G.X b ∨ K b⟩ w1 objs1 B1 G1 W) (hE' : Ev K W W') :
    Post objs Ba G w objs1 B1 ⟨G1.f, G.X⟩ W' ∧ (∀ v x, R W (Own objs1 G1) G1 B1 v x → R W' (Own objs1 ⟨G1.f, G.X⟩) ⟨G1.f, G.X⟩ B1 v x) := by
  have hX : G1.X = fun b => G.X b ∨ K b := hP.same
  obtain ⟨h1, h2⟩ := hP.st.unbox (X' := G.X) (hE'.mono fun b hb => by rw [hX]; exact .inr hb) fun b hb => by rw [hX]; exact .inl hb
  refine ⟨{ st := h1, ev := ?_, same := rfl, next := hP.next, agree := hP.agree, own := fun b hb k => ?_ }, h2⟩
  · have ha : Ev (Mut objs G) w w1 := hE.mono fun _ h => h.elim
    have hb := ha.trans hP.ev fun b _ h => h
    exact hb.trans hE' fun b hlt he => by have := hK b he; omega
  · have k' : Own objs1 G1 b := by
      rcases k with k | k
      · exact .inl (by rw [hX]; exact .inl k)
      · exact .inr k
    rcases hP.own b (Nat.lt_of_lt_of_le hb hE.size) k' with (h | h) | h
    · exact .inl h
    · have := hK b h; omega
    · exact .inr h
/-- A load of one cell through a related pointer. -/
theorem loadA_cell {objs : Objs} {B : Nat → Prop} (hS : St objs B G w) {v u : AV} {x : Value} (h : R w (Own objs G) G B v x) (hu : loadA objs none v = some u) :
    ∃ y b o, x = .pointer (some ⟨b, o, none⟩) ∧ w.cell? ⟨b, o, none⟩ = some y ∧ R w (Own objs G) G B u y := by
  obtain ⟨h, hb⟩ := h
  cases h <;> try (simp [loadA] at hu; done)
  case ptr id i off =>
    simp only [loadA, ob_some] at hu
    obtain ⟨o, ho, c, hc, hu⟩ := hu
    obtain ⟨xs, k1, k2, k3, k4⟩ := elem_at hS ho hc
    simp only [dropN_eq] at hu
    obtain ⟨y, hy, hr⟩ := mkVal_ok (m := none) (k1.drop off) (fun y hy => k2 y (List.mem_of_mem_drop hy)) hu
    exact ⟨y, _, _, rfl, by simpa using (k4.drop off) 0 y hy, hr⟩
  case fptr es i off b base s h =>
    simp only [loadA, ob_some, nth_eq] at hu
    obtain ⟨c, hc, hu⟩ := hu
    obtain ⟨xs, k1, k2, k3, k4⟩ := fz_elem (G := G) (n := B) h hc
    obtain ⟨q, hq, hu⟩ := hu
    cases hu
    obtain ⟨y, hy, hr⟩ := k1.get (i := off) (v := .p q) (by simp [hq])
    exact ⟨y, _, _, rfl, by simpa using (k4.drop off) 0 y (by simpa using hy), hr⟩
end
/-- What append says, of two values. -/
theorem app_two {objs : Objs} {B : Nat → Prop} {G : Gm} {w : World} (hS : St objs B G w) {va vb : AV} {xa xb : Value} {nx : Nat} {r : AV × Mem} (ha : R w (Own objs G) G B va xa) (hb : R w (Own objs G) G B vb xb) (hB : ¬ B nx)
    (he : evE (.append 1 (.res 0) (.res 1)) [] [va, vb] ⟨nx, objs⟩ = some r) :
    ∃ B', ((r.2.next = nx ∧ B' = B) ∨ (r.2.next = nx + 1 ∧ B' = fun i => B i ∨ i = nx)) ∧ ∃ x w' G', (Builtin.append_ #[76, 76] 76 #[xa, xb]).run Tryz.prog w = .ok x w' ∧ Post objs B G w r.2.objs B' G' w' ∧ R w' (Own r.2.objs G') G' B' r.1 x ∧ Wk w w' := by
  have := eok_appendW (P := Tryz.prog) (ρ := fun t => if t = 0 then some (.res 0) else if t = 1 then some (.res 1) else none) (fr := []) (env := [va, vb]) (a := ⟨#[xa, xb], []⟩) (xa := .tmp 0) (xb := .tmp 1) (t := 76) (u := 76) (ty := 76) (el := 9) (nx := nx) (r := r) hS ?_ (by kernel_rfl) (.inl ⟨9, by kernel_rfl⟩) (by rw [show Tryz.prog.cellsOf 9 = 1 by kernel_rfl]; decide) (by rw [show Tryz.prog.bytesOf 9 = 16 by kernel_rfl]; decide) (by kernel_rfl) rfl rfl hB (by rw [show Tryz.prog.cellsOf 9 = 1 by kernel_rfl]; exact he)
  · exact this
  · intro t o v ht ho
    simp only at ht
    split at ht
    · cases ht
      rename_i h
      subst h
      simp [opd] at ho
      subst ho
      exact ha
    · split at ht <;> cases ht
      rename_i h
      subst h
      simp [opd] at ho
      subst ho
      exact hb
/-- The keys of a map. -/
theorem keysA_ok {P : Program} {objs : Objs} {B : Nat → Prop} {G : Gm} {w : World} (hS : St objs B G w) {m : AV} {y : Value} {ks : List PV} (hr : R w (Own objs G) G B m y) (hk : keysA objs m = some ks) :
    (m = .nilm ∧ ks = [] ∧ y = .map none) ∨ ∃ id o es ck, m = .map id ∧ y = .map (some (G id).b) ∧ Alive objs id o ∧ w.heap[(G id).b]? = some (.map es ck) ∧ MapSz es ck ks.length ∧ ∀ (i : Nat) (k : PV) (e : MapEntry), ks[i]? = some k → es[i]? = some e → PRel w (Own objs G) k e.key := by
  rcases mapCases_some hk with ⟨id, rfl, h⟩ | ⟨rfl, h⟩
  · right
    obtain ⟨o, ho, h⟩ := ob_some.1 h
    have fin : ∀ l : List (PV × AV), o ≠ .dead → ks = l.map Prod.fst → MapAt w (Own objs G) G (G id).b l → ∃ id_1 o es ck, AV.map id = .map id_1 ∧ y = .map (some (G id_1).b) ∧ Alive objs id_1 o ∧ w.heap[(G id_1).b]? = some (.map es ck) ∧ MapSz es ck ks.length ∧ ∀ (i : Nat) (k : PV) (e : MapEntry), ks[i]? = some k → es[i]? = some e → PRel w (Own objs G) k e.key := by
      rintro l hd rfl ⟨es, ck, h1, h2, h3⟩
      refine ⟨id, o, es, ck, rfl, ?_, ⟨ho, hd⟩, h1, by simpa using h2, fun i k e hk he => ?_⟩
      · obtain ⟨hr, _⟩ := hr
        cases hr
        rfl
      · rw [List.getElem?_map, Option.map_eq_some_iff] at hk
        obtain ⟨q, hq, rfl⟩ := hk
        exact (h3 i q.1 q.2 e hq he).1
    rcases asMap_ok hS ho h with ⟨l, rfl, h, hM⟩ | ⟨l, rfl, h, hM⟩
    · cases h
      exact fin _ (by simp) (by simp [Function.comp_def]) hM
    · cases h
      exact fin _ (by simp) (by simp) hM
  · left
    cases h
    obtain ⟨hr, _⟩ := hr
    cases hr
    exact ⟨rfl, rfl, rfl⟩
theorem appendA_row {s : Nat} {a : AV} {e : Ob} {M : Mem} {r : AV × Mem} (h : appendA s a e M = some r) : ∃ id t i n, r.1 = .row id t i n := by
  cases a <;> try (cases h; done)
  · cases h; exact ⟨_, _, _, _, rfl⟩
  · cases h; exact ⟨_, _, _, _, rfl⟩
  · rename_i id t i n
    obtain ⟨_, h⟩ := bf_some.1 (show bf (Nat.beq s t) (some (AV.row M.next s 0 (sizeO e), Mem.new ⟨M.next, setO id .dead M.objs⟩ e)) none = some r from h)
    cases h
    exact ⟨_, _, _, _, rfl⟩
theorem app_row {s : AV} {k : List Nat} {M : Mem} {r : AV × Mem} (h : evE (.append 1 (.res 0) (.res 1)) [] [s, .lit [[.str k]]] M = some r) : ∃ id t i n, r.1 = .row id t i n := by
  simp only [evE, ob_some] at h
  obtain ⟨va, hva, vb, hvb, n, hn, ea, hea, eb, heb, he⟩ := h
  cases hvb
  cases heb
  have he : bf (sizedO 1 ea) (bf (sizedO 1 (.pr [[.str k]])) (bf (Nat.blt (sizeO ea + sizeO (.pr [[.str k]])) 16777216) (ob (appendO ea (.pr [[.str k]])) fun e => appendA 1 va e M) none) none) none = some r := he
  obtain ⟨_, he⟩ := bf_some.1 he
  obtain ⟨_, he⟩ := bf_some.1 he
  obtain ⟨_, he⟩ := bf_some.1 he
  obtain ⟨_, _, he⟩ := ob_some.1 he
  exact appendA_row he
theorem ext91_ok {vs : List AV} {M M' : Mem} {r : Rs} (h : ext91 vs M = some (r, M')) : RunOk Tryz.prog 101 vs M r M' := by
  intro G w xs hS hRL
  unfold ext91 at h
  split at h <;> try (cases h; done)
  rename_i s f b
  obtain ⟨hf, h⟩ := bf_some.1 h
  have hf := Nat.eq_of_beq_eq_true hf
  subst hf
  obtain ⟨sn, hsn, h⟩ := ob_some.1 h
  obtain ⟨m, hm, h⟩ := ob_some.1 h
  obtain ⟨ks, hks, h⟩ := ob_some.1 h
  obtain ⟨x1, x2, rfl⟩ : ∃ x1 x2, xs = [x1, x2] := by
    have := hRL.1
    match xs, this with
    | [x1, x2], _ => exact ⟨x1, x2, rfl⟩
  have hx1 := hRL.2 0 _ x1 rfl rfl
  have hx2 := hRL.2 1 _ x2 rfl rfl
  obtain ⟨sa, sc, rfl, hcap⟩ := lenS_ok hx1 hsn
  obtain ⟨ys, zs, rfl, hy, hz⟩ := hx2.fn
  obtain rfl : ys = [] := List.length_eq_zero_iff.1 hy.1.symm
  obtain ⟨z, rfl⟩ : ∃ z, zs = [z] := by
    have := hz.1
    match zs, this with
    | [z], _ => exact ⟨z, rfl⟩
  have hzr := hz.2 0 _ z rfl rfl
  obtain ⟨y, bb, bo, rfl, hcell, hyr⟩ := loadA_cell hS hzr hm
  have hbb := cell_lt hcell
  have hkeys := keysA_ok (P := Tryz.prog) hS hyr hks
  have hK : Known Tryz.prog 101 := ⟨_, Tryz.func101, by kernel_rfl, by kernel_rfl⟩
  have hcell' : ∀ {W : World}, Ev (fun _ => False) w W → W.cell? ⟨bb, bo, none⟩ = some y := fun h => h.cell hcell fun h => h
  have hsz : ∀ {W : World}, Ev (fun _ => False) w W → bb < W.heap.size := fun h => Nat.lt_of_lt_of_le hbb h.size
  have none_case : ∀ {mm : Option Nat}, y = .map mm → (∀ bm, mm = some bm → ∃ ck, w.heap[bm]? = some (.map #[] ck)) → ks = [] → r = .ret s → M' = M → Known Tryz.prog 101 ∧ Calls Tryz.prog 101 ⟨[.slice sa sn sc, .func (.func 156) ⟨[]⟩ ⟨[.pointer (some ⟨bb, bo, none⟩)]⟩]⟩ w fun e w' => ∃ G', Post M.objs (Lt M.next) G w M'.objs (Lt M'.next) G' w' ∧ M.next ≤ M'.next ∧ EndOk r e (R w' (Own M'.objs G') G' (Lt M'.next)) := by
    rintro mm rfl hmm rfl rfl rfl
    refine ⟨hK, t91 [] (by simp) sa sn sc ⟨bb, bo, none⟩ ⟨#[]⟩ w (fun _ _ _ _ => False) _ (Lib.hid fun W hE => it145_none bb bo mm _ W (hsz hE) (hcell' hE) fun bm h => ?_) (Lib.hid (by simp)) (Lib.hid fun _ W hE => ?_) (Lib.hid (by simp))⟩
    · obtain ⟨ck, hck⟩ := hmm bm h
      exact ⟨ck, (hE.keep _ (Array.getElem?_eq_some_iff.1 hck).1 fun h => h).trans hck⟩
    · obtain ⟨h1, h2⟩ := hS.box hE (X' := G.X) (fun b hb => Nat.lt_of_lt_of_le (hS.ltX b hb) hE.size) (fun b hb _ => hb) fun b hb => hb
      exact ⟨G, ⟨h1, hE.mono fun _ h => h.elim, rfl, fun _ h => h, fun _ _ => rfl, fun _ _ h => h⟩, Nat.le_refl _, _, rfl, h2 _ _ hx1⟩
  split at h
  · cases h
    rcases hkeys with ⟨rfl, _, rfl⟩ | ⟨id, o, es, ck, rfl, rfl, hal, hb, hsz', _⟩
    · exact none_case rfl (by simp) rfl rfl rfl
    · refine none_case rfl (fun bm hbm => ?_) rfl rfl rfl
      cases hbm
      have : es = #[] := Array.eq_empty_of_size_eq_zero (by simpa using hsz'.1)
      subst this
      exact ⟨ck, hb⟩
  · rename_i k
    obtain ⟨r0, hr0, h⟩ := ob_some.1 h
    cases h
    rcases hkeys with ⟨rfl, h, _⟩ | ⟨id, o, es, ck, rfl, rfl, hal, hb, hsz', hkey⟩
    · cases h
    obtain ⟨e, rfl⟩ : ∃ e, es = #[e] := by
      have := hsz'.1
      match es, this with
      | ⟨[e]⟩, _ => exact ⟨e, rfl⟩
    have hk := hkey 0 _ e rfl rfl
    have hborn := hsz'.2 0 e rfl
    have hbm := (hS.lt id o hal).2
    obtain ⟨ek, ev, eb⟩ := e
    simp only at hk
    cases hk with
    | str _ kb hkb =>
    refine ⟨hK, t91 [()] (by simp) sa sn sc ⟨bb, bo, none⟩ kb w (fun n1 W1 v W2 => ∃ B' G', Post M.objs (Lt M.next) ⟨G.f, fun b => G.X b ∨ (w.heap.size ≤ b ∧ b < n1)⟩ W1 r0.2.objs B' G' W2 ∧ R W2 (Own r0.2.objs G') G' B' r0.1 v ∧ (∀ i, B' i → Lt r0.2.next i) ∧ M.next ≤ r0.2.next) _
      (Lib.hid fun W hE => it145_one bb bo (G id).b ck _ W (hsz hE) (Nat.lt_of_lt_of_le hbm hE.size) (hcell' hE) ((hE.keep _ hbm fun h => h).trans hb) hborn) (Lib.hid fun _ n1 W1 hn1 hE hW1 hlit => ?_) (Lib.hid (by simp)) (Lib.hid fun _ v W => ?_)⟩
    · obtain ⟨hS1, hR1⟩ := hS.box hE (X' := fun b => G.X b ∨ (w.heap.size ≤ b ∧ b < n1)) (fun b hb => by
        rcases hb with hb | ⟨_, hb⟩
        · exact Nat.lt_of_lt_of_le (hS.ltX b hb) hE.size
        · omega) (fun b hb hlt => hb.resolve_right (by omega)) fun b hb => .inl hb
      have hlt : ∀ id o, Alive M.objs id o → (G.f id).b < w.heap.size := fun id o h => (hS.lt id o h).2
      have hnot : ∀ b, w.heap.size ≤ b → ¬ Mut M.objs ⟨G.f, fun b => G.X b ∨ (w.heap.size ≤ b ∧ b < n1)⟩ b := by
        rintro b hb' ⟨id, o, h1, h2⟩
        have := hlt id o h1
        have h2 : (G.f id).b = b := h2
        omega
      have hnO : ¬ Own M.objs ⟨G.f, fun b => G.X b ∨ (w.heap.size ≤ b ∧ b < n1)⟩ n1 := by
        rintro ((h | h) | h)
        · have := hS.ltX _ h; omega
        · omega
        · exact hnot n1 hn1 h
      have hlitR : R W1 (Own M.objs ⟨G.f, fun b => G.X b ∨ (w.heap.size ≤ b ∧ b < n1)⟩) ⟨G.f, fun b => G.X b ∨ (w.heap.size ≤ b ∧ b < n1)⟩ (Lt M.next) (.lit [[.str k]]) (.slice (some ⟨n1, 0, none⟩) 1 1) := by
        refine ⟨.lit [[.str k]] _ (Fz.rel (s := 1) ⟨by omega, hnO, fun i c hc => ?_, fun i j c v hc hv => ?_⟩ (Nat.le_refl _)), fun r hr => by simp at hr⟩
        · match i, hc with
          | 0, hc => cases hc; rfl
        · match i, j, hc, hv with
          | 0, 0, hc, hv =>
            cases hc
            cases hv
            exact ⟨.string kb, Lib.cell_of_heap hlit 0, rfl, .str _ _ hkb⟩
          | 0, j + 1, hc, hv => cases hc; simp at hv
      obtain ⟨B', hB', x, W2, G', hrun, hP, hRx, hwk⟩ := app_two hS1 (hR1 _ _ hx1) hlitR (fun h => Nat.lt_irrefl _ h) hr0
      have hxs : ∃ va vn vc, x = .slice va vn vc := by
        obtain ⟨id, t, i, n, hrow⟩ := app_row hr0
        rw [hrow] at hRx
        obtain ⟨hRx, _⟩ := hRx
        cases hRx <;> exact ⟨_, _, _, rfl⟩
      obtain ⟨va, vn, vc, rfl⟩ := hxs
      refine ⟨va, vn, vc, W2, hrun, ⟨B', G', hP, hRx, ?_, ?_⟩, hP.ev.size, ⟨hP.ev.os, hP.ev.tape, hP.ev.output⟩, hwk, fun b h1 h2 => hP.ev.keep b (by omega) (hnot b h1)⟩
      · rcases hB' with ⟨h1, rfl⟩ | ⟨h1, rfl⟩
        · intro i hi; rw [h1]; exact hi
        · intro i hi
          show i < _
          rw [h1]
          rcases hi with hi | hi
          · exact Nat.lt_succ_of_lt hi
          · omega
      · rcases hB' with ⟨h1, rfl⟩ | ⟨h1, rfl⟩ <;> omega
    · rintro ⟨n1, W1, W2, hn1, hE, hW1, ⟨B', G', hP, hRx, hBl, hle⟩, _, _, hE'⟩
      obtain ⟨h1, h2⟩ := Post.boxedS hS hE (fun b hb => hb.1) hP hE'
      refine ⟨_, { st := h1.st.weaken hBl, ev := h1.ev, same := h1.same, next := fun i hi => hBl i (h1.next i hi), agree := h1.agree, own := h1.own }, hle, _, rfl, (h2 _ _ hRx).weaken hBl⟩
  · cases h
end Go.Ab
