/- (*tables).calls$4, in the evaluator's words. -/
import Derived.Test.YtmhjnndhphidfaaGreatR1
import Derived.Test.YtmhjnndhphidfaaGreatQ1
namespace Go.Ab
set_option maxRecDepth 8000
open Go.Proofs Go.RowKit
open Go.ChangeMaps (setBlock)
set_option linter.unusedVariables false
set_option linter.unusedSimpArgs false
theorem asCnt_some {v : AV} {n : Nat} (h : asCnt v = some n) : v = .p (.int .i64 (Int.ofNat n)) := by
  unfold asCnt at h
  split at h <;> cases h
  rfl
section
variable {objs : Objs} {B : Nat → Prop} {G : Gm} {w : World}
theorem cx_two {va vb vc : AV} {xa xb xc : Value} (ha : R w (Own objs G) G B va xa) (hb : R w (Own objs G) G B vb xb) (hc : R w (Own objs G) G B vc xc) :
    Cx (fun t => if t = 0 then some (.res 0) else if t = 1 then some (.res 1) else if t = 2 then some (.res 2) else none) [] [va, vb, vc] ⟨#[xa, xb, xc], []⟩ w (Own objs G) G B := by
  intro t o v ht ho
  simp only at ht
  split at ht
  · cases ht
    rename_i h
    subst h
    simp [opd] at ho
    subst ho
    exact ha
  · split at ht
    · cases ht
      rename_i h
      subst h
      simp [opd] at ho
      subst ho
      exact hb
    · split at ht <;> cases ht
      rename_i h
      subst h
      simp [opd] at ho
      subst ho
      exact hc
/-- A look-up of a string. -/
theorem lk_two (hS : St objs B G w) {t e : TypeId} {z va vb v : AV} {xa xb : Value} (ht : Tryz.prog.underlying t = some (.map 9 e)) (hk : keyK Tryz.prog t = some 2) (hz : zeroV Tryz.prog e = some z) (ha : R w (Own objs G) G B va xa) (hb : R w (Own objs G) G B vb xb) (h : lkA z va vb objs = some v) :
    ∃ y, (Instr.lookup t xa xb false).run Tryz.prog w = .ok y w ∧ R w (Own objs G) G B v y :=
  ok_lookup (P := Tryz.prog) (m := .tmp 0) (k := .tmp 1) hS (cx_two ha hb R.undef) ht hk hz rfl rfl (by exact h)
theorem set_two (hS : St objs B G w) {va vb vc : AV} {xa xb xc : Value} {nx : Nat} {r : AV × Mem} (ha : R w (Own objs G) G B va xa) (hb : R w (Own objs G) G B vb xb) (hc : R w (Own objs G) G B vc xc) (h : evE (.mapSet 2 (.res 0) (.res 1) (.res 2)) [] [va, vb, vc] ⟨nx, objs⟩ = some r) :
    r.2.next = nx ∧ ∃ w' G', (Instr.mapUpdate 155 xa xb xc).run Tryz.prog w = .ok () w' ∧ Post objs B G w r.2.objs B G' w' ∧ R w' (Own r.2.objs G') G' B r.1 undef ∧ ∀ b b' : Nat, xa = .map (some b) → b' ≠ b → w'.heap[b']? = w.heap[b']? :=
  eok_mapSetW (P := Tryz.prog) (t := 155) (m := .tmp 0) (k := .tmp 1) (x := .tmp 2) hS (cx_two ha hb hc) (by kernel_rfl) rfl rfl rfl h
theorem End93.mono {pa : Addr} {sb : ByteArray} {R R' : Ending → World → Prop} {q : Int} {W : World} (h : End93 pa sb R q W) (hR : ∀ e w', R e w' → R' e w') : End93 pa sb R' q W := by
  obtain ⟨kb, W3, kb3, v, h1, h2, h3, h4, h5⟩ := h
  exact ⟨kb, W3, kb3, v, h1, h2, h3, h4, hR _ _ h5⟩
theorem R.int_val {O : Bl} {n : Nat → Prop} {k : IntKind} {i : Int} {y : Value} (h : R w O G n (.p (.int k i)) y) : y = .int k i := by
  obtain ⟨h, _⟩ := h
  cases h with
  | p _ _ h => cases h; rfl
theorem R.map_val {O : Bl} {n : Nat → Prop} {id : Nat} {y : Value} (h : R w O G n (.map id) y) : y = .map (some (G id).b) := by
  obtain ⟨h, _⟩ := h
  cases h
  rfl
theorem endA_ok {k : Nat} (hS : St objs (Lt k) G w) {kid q : Nat} {a v : AV} {s : List Nat} {M' : Mem} {pa : Addr} {sb : ByteArray} (ha : R w (Own objs G) G (Lt k) a (.pointer (some pa))) (hs : R w (Own objs G) G (Lt k) (.p (.str s)) (.string sb)) (h : endA kid a s q ⟨k, objs⟩ = some (v, M')) :
    M'.next = k ∧ ∃ n : Nat, v = .p (.int .i64 (Int.ofNat n)) ∧ End93 pa sb (fun e w' => e = .returned (.int .i64 (Int.ofNat n)) ∧ ∃ G', Post objs (Lt k) G w M'.objs (Lt k) G' w' ∧ ∀ b, b ≠ (G kid).b → w'.heap[b]? = w.heap[b]?) (Int.ofNat q) w := by
  unfold endA at h
  obtain ⟨kn, hkn, g1⟩ := ob_some.1 h
  clear h
  rcases mapCases_some g1 with ⟨kid', rfl, g2⟩ | ⟨_, g2⟩ <;> try (cases g2; done)
  clear g1
  obtain ⟨hk, g3⟩ := bf_some.1 g2
  clear g2
  obtain rfl := Nat.eq_of_beq_eq_true hk
  obtain ⟨r0, hr0, g4⟩ := ob_some.1 g3
  clear g3
  obtain ⟨kn2, hkn2, g5⟩ := ob_some.1 g4
  clear g4
  rcases mapCases_some g5 with ⟨kid2, rfl, g6⟩ | ⟨_, g6⟩ <;> try (cases g6; done)
  clear g5
  obtain ⟨u, hu, g7⟩ := ob_some.1 g6
  clear g6
  obtain ⟨n, hn, h⟩ := ob_some.1 g7
  clear g7
  cases h
  have hn := asCnt_some hn
  subst hn
  obtain ⟨y1, b1, o1, e1, c1, r1⟩ := loadA_cell hS ha hkn
  cases e1
  obtain rfl := r1.map_val
  obtain ⟨hnx, W3, G3, hrun, hP, _, hoth⟩ := set_two hS r1 hs (R.p (.int .i64 (Int.ofNat (q + 1)))) hr0
  obtain ⟨y2, b2, o2, e2, c2, r2⟩ := loadA_cell hP.st (hP.r ha) hkn2
  cases e2
  obtain rfl := r2.map_val
  obtain ⟨y3, hl, r3⟩ := lk_two hP.st (t := 155) (e := 3) (by kernel_rfl) (by kernel_rfl) (by kernel_rfl) r2 (hP.r hs) hu
  obtain rfl := r3.int_val
  exact ⟨hnx, n, rfl, _, W3, _, _, c1, hrun, c2, hl, rfl, G3, hP, fun b hb => hoth _ b rfl hb⟩
end
theorem lkA_alive {z k v : AV} {id : Nat} {objs : Objs} (h : lkA z (.map id) k objs = some v) : ∃ o, Alive objs id o := by
  unfold lkA at h
  simp only [evP, ob_some, bf_some] at h
  obtain ⟨um, hum, uk, huk, pk, hpk, hkind, he⟩ := h
  cases hum
  rcases mapCases_some he with ⟨id', e, he⟩ | ⟨e, he⟩ <;> cases e
  obtain ⟨o, ho, he⟩ := ob_some.1 he
  refine ⟨o, ho, ?_⟩
  rintro rfl
  cases he
theorem endA_some {kid q : Nat} {a v : AV} {s : List Nat} {M M' : Mem} (h : endA kid a s q M = some (v, M')) : (∃ n : Nat, v = .p (.int .i64 (Int.ofNat n))) ∧ M'.next = M.next := by
  unfold endA at h
  obtain ⟨kn, hkn, g1⟩ := ob_some.1 h
  clear h
  rcases mapCases_some g1 with ⟨kid', rfl, g2⟩ | ⟨_, g2⟩ <;> try (cases g2; done)
  clear g1
  obtain ⟨hk, g3⟩ := bf_some.1 g2
  clear g2
  obtain ⟨r0, hr0, g4⟩ := ob_some.1 g3
  clear g3
  obtain ⟨kn2, hkn2, g5⟩ := ob_some.1 g4
  clear g4
  rcases mapCases_some g5 with ⟨kid2, rfl, g6⟩ | ⟨_, g6⟩ <;> try (cases g6; done)
  clear g5
  obtain ⟨u, hu, g7⟩ := ob_some.1 g6
  clear g6
  obtain ⟨n, hn, h⟩ := ob_some.1 g7
  clear g7
  cases h
  refine ⟨⟨n, rfl⟩, ?_⟩
  simp only [evE, ob_some, bf_some] at hr0
  obtain ⟨um, hum, uk, huk, ux, hux, pk, hpk, hkind, he⟩ := hr0
  rcases mapCases_some he with ⟨id', e, he⟩ | ⟨e, he⟩ <;> try (cases he; done)
  obtain ⟨M2, hM2, he⟩ := ob_some.1 he
  cases he
  obtain ⟨o, o', l, l', ho, h1, h2, hput, rfl⟩ := mapUpd_some hM2
  rfl
/-- What holds of a count. -/
def DOk (D : List AV → Mem → Option (AV × Mem)) : Prop :=
  ∀ args M r M', D args M = some (r, M') → ∃ kid s a b d q, args = [.p (.str s), a, b, d] ∧ loadA M.objs none a = some (.map kid) ∧ M'.next = M.next ∧ r = .p (.int .i64 (Int.ofNat q)) ∧
    ∀ (G : Gm) (w : World) (xs : List Value), St M.objs (Lt M.next) G w → RL w (Own M.objs G) G (Lt M.next) args xs → Calls Tryz.prog 103 ⟨xs⟩ w fun e w' => e = .returned (.int .i64 (Int.ofNat q)) ∧
      ∃ G', Post M.objs (Lt M.next) G w M'.objs (Lt M.next) G' w' ∧ ∀ b, b < w.heap.size → b ≠ (G kid).b → w'.heap[b]? = w.heap[b]?
set_option maxHeartbeats 2000000 in
theorem step_ok {D : List AV → Mem → Option (AV × Mem)} (hD : DOk D) : DOk (depthStep D) := by
  intro args M r M' h
  unfold depthStep at h
  split at h <;> try (cases h; done)
  rename_i s a b d
  obtain ⟨kn, hkn, h⟩ := ob_some.1 h
  obtain ⟨gr, hgr, h⟩ := ob_some.1 h
  obtain ⟨f, hf, h⟩ := ob_some.1 h
  rcases mapCases_some h with ⟨kid, rfl, h⟩ | ⟨_, h⟩ <;> try (cases h; done)
  obtain ⟨n0, hn0, g1⟩ := ob_some.1 h
  clear h
  obtain ⟨n, hn, h⟩ := ob_some.1 g1
  clear g1
  obtain rfl := asCnt_some hn
  -- what the arguments are
  have front : ∀ (G : Gm) (w : World) (xs : List Value), St M.objs (Lt M.next) G w → RL w (Own M.objs G) G (Lt M.next) [.p (.str s), a, b, d] xs →
      ∃ sb pa pb pd, xs = [.string sb, .pointer (some pa), .pointer (some pb), .pointer (some pd)] ∧ R w (Own M.objs G) G (Lt M.next) (.p (.str s)) (.string sb) ∧ R w (Own M.objs G) G (Lt M.next) a (.pointer (some pa)) ∧
        R w (Own M.objs G) G (Lt M.next) b (.pointer (some pb)) ∧ R w (Own M.objs G) G (Lt M.next) d (.pointer (some pd)) ∧ w.cell? pa = some (.map (some (G kid).b)) ∧ (∃ gy, w.cell? pb = some gy ∧ R w (Own M.objs G) G (Lt M.next) gr gy) ∧
        (∃ fy, w.cell? pd = some fy ∧ R w (Own M.objs G) G (Lt M.next) f fy) ∧ (Instr.lookup 155 (.map (some (G kid).b)) (.string sb) false).run Tryz.prog w = .ok (.int .i64 (Int.ofNat n)) w := by
    intro G w xs hS hRL
    obtain ⟨x0, x1, x2, x3, rfl⟩ : ∃ x0 x1 x2 x3, xs = [x0, x1, x2, x3] := by
      have := hRL.1
      match xs, this with
      | [x0, x1, x2, x3], _ => exact ⟨x0, x1, x2, x3, rfl⟩
    have h0 := hRL.2 0 _ x0 rfl rfl
    have h1 := hRL.2 1 _ x1 rfl rfl
    have h2 := hRL.2 2 _ x2 rfl rfl
    have h3 := hRL.2 3 _ x3 rfl rfl
    obtain ⟨sb, rfl⟩ : ∃ sb, x0 = .string sb := by
      obtain ⟨h0, _⟩ := h0
      cases h0 with
      | p _ _ h => cases h; exact ⟨_, rfl⟩
    obtain ⟨y1, b1, o1, rfl, c1, r1⟩ := loadA_cell hS h1 hkn
    obtain ⟨y2, b2, o2, rfl, c2, r2⟩ := loadA_cell hS h2 hgr
    obtain ⟨y3, b3, o3, rfl, c3, r3⟩ := loadA_cell hS h3 hf
    obtain rfl := r1.map_val
    obtain ⟨y, hl, hy⟩ := lk_two hS (t := 155) (e := 3) (by kernel_rfl) (by kernel_rfl) (by kernel_rfl) r1 h0 hn0
    obtain rfl := hy.int_val
    exact ⟨sb, _, _, _, rfl, h0, h1, h2, h3, c1, ⟨_, c2, r2⟩, ⟨_, c3, r3⟩, hl⟩
  cases hb : Nat.beq n 0 with
  | false =>
    rw [hb] at h
    cases h
    refine ⟨kid, s, a, b, d, n, rfl, hkn, rfl, rfl, fun G w xs hS hRL => ?_⟩
    obtain ⟨sb, pa, pb, pd, rfl, h0, h1, h2, h3, c1, _, _, hl⟩ := front G w xs hS hRL
    refine w93_known sb pa pb pd _ (Int.ofNat n) w _ c1 hl ?_ ⟨rfl, G, .refl hS, fun _ _ _ => rfl⟩
    intro he
    have : n = 0 := by simpa using he
    subst this
    cases hb
  | true =>
    rw [hb] at h
    obtain rfl := Nat.eq_of_beq_eq_true hb
    have g1 : mapCases gr _ none = some (r, M') := h
    clear h
    rcases mapCases_some g1 with ⟨gid, rfl, g2⟩ | ⟨_, g2⟩ <;> try (cases g2; done)
    clear g1
    obtain ⟨g, hg, g3⟩ := ob_some.1 g2
    clear g2
    obtain ⟨ks, hks, h⟩ := ob_some.1 g3
    clear g3
    have noise : ∀ {G : Gm} {w w1 : World}, St M.objs (Lt M.next) G w → Ev (fun _ => False) w w1 → St M.objs (Lt M.next) G w1 ∧ ∀ v x, R w (Own M.objs G) G (Lt M.next) v x → R w1 (Own M.objs G) G (Lt M.next) v x :=
      fun {G w w1} hS hE => hS.box hE (X' := G.X) (fun b hb => Nat.lt_of_lt_of_le (hS.ltX b hb) hE.size) (fun b hb _ => hb) fun b hb => hb
    have noiseP : ∀ {G G' : Gm} {w w1 w2 : World} {objs' : Objs}, St M.objs (Lt M.next) G w → Ev (fun _ => False) w w1 → Post M.objs (Lt M.next) G w1 objs' (Lt M.next) G' w2 → Post M.objs (Lt M.next) G w objs' (Lt M.next) G' w2 :=
      fun {G G' w w1 w2 objs'} hS hE hP => ⟨hP.st, (hE.mono fun _ h => h.elim).trans hP.ev fun _ _ h => h, hP.same, hP.next, hP.agree, fun b hb k => hP.own b (Nat.lt_of_lt_of_le hb hE.size) k⟩
    split at h
    · -- no callee
      obtain ⟨⟨n, rfl⟩, hnx⟩ := endA_some h
      refine ⟨kid, s, a, b, d, n, rfl, hkn, hnx, rfl, fun G w xs hS hRL => ?_⟩
      obtain ⟨sb, pa, pb, pd, rfl, h0, h1, h2, h3, c1, ⟨gy, c2, r2⟩, _, hl⟩ := front G w xs hS hRL
      obtain rfl := r2.map_val
      obtain ⟨y, hl2, r3⟩ := lk_two hS (t := 179) (e := 167) (by kernel_rfl) (by kernel_rfl) (by kernel_rfl) r2 h0 hg
      obtain ⟨mm, it, rfl, hrg, hnxt⟩ : ∃ mm it, y = .map mm ∧ (Instr.range 167 (.map mm)).run Tryz.prog w = .ok (.pointer (some ⟨w.heap.size, 0, none⟩)) (w.alloc it) ∧ ∀ ty, (Instr.next (.pointer (some ⟨w.heap.size, 0, none⟩)) false ty).run Tryz.prog (w.alloc it) = .ok (.tuple #[.bool false]) (w.alloc it) := by
        rcases keysA_ok (P := Tryz.prog) hS r3 hks with ⟨rfl, _, rfl⟩ | ⟨id, o, es, ck, rfl, rfl, hal, hb', hsz', _⟩
        · exact ⟨none, _, rfl, run_range_nilMap w 167 9 4 (by kernel_rfl), fun ty => next_nil _ ty _ 0 0 #[] (World.alloc_heap_new _ _)⟩
        · have : es = #[] := Array.eq_empty_of_size_eq_zero (by simpa using hsz'.1)
          subst this
          have hlt := (Array.getElem?_eq_some_iff.1 hb').1
          exact ⟨some _, _, rfl, run_range_map w 167 9 4 _ #[] ck (by kernel_rfl) hb', fun ty => next_none _ ty _ _ ck (World.alloc_heap_new _ _) ((Below.heap_alloc _ _ _ hlt).trans hb')⟩
      have hE := alloc_ev w it
      obtain ⟨hS1, hL⟩ := noise hS hE
      obtain ⟨_, n', e1, hend⟩ := endA_ok (k := M.next) (objs := M.objs) hS1 (hL _ _ h1) (hL _ _ h0) h
      refine w93_none sb pa pb pd _ _ mm w it _ c1 hl c2 hl2 hrg hnxt (hend.mono fun e w' => ?_)
      rintro ⟨rfl, G', hP, ho⟩
      cases e1
      exact ⟨rfl, G', noiseP hS hE hP, fun b hb hne => (ho b hne).trans (hE.keep b hb fun h => h)⟩
    · -- one callee
      rename_i k
      rcases mapCases_some h with ⟨gm, rfl, g1⟩ | ⟨_, g1⟩ <;> try (cases g1; done)
      clear h
      obtain ⟨hgk, g2⟩ := bf_some'.1 g1
      clear g1
      split at g2 <;> try (cases g2; done)
      rename_i ff a' b' d'
      obtain ⟨hff, g3⟩ := bf_some.1 g2
      clear g2
      obtain rfl := Nat.eq_of_beq_eq_true hff
      obtain ⟨kn', hkn', g4⟩ := ob_some.1 g3
      clear g3
      rcases mapCases_some g4 with ⟨kid', rfl, g5⟩ | ⟨_, g5⟩ <;> try (cases g5; done)
      clear g4
      obtain ⟨hkk, g6⟩ := bf_some.1 g5
      clear g5
      obtain rfl := Nat.eq_of_beq_eq_true hkk
      obtain ⟨⟨r1, M1⟩, hr1, g7⟩ := ob_some.1 g6
      clear g6
      obtain ⟨q, hq, g8⟩ := ob_some.1 g7
      clear g7
      obtain ⟨hq9, h⟩ := bf_some.1 g8
      clear g8
      have hq9 : q < 1000000000 := by simpa using hq9
      obtain ⟨kid2, s2, a2, b2, d2, q2, e1, e2, hn1, e3, hcall⟩ := hD _ _ _ _ hr1
      cases e1
      rw [hkn'] at e2
      cases e2
      have e4 := asCnt_some hq
      have e4 : r1 = _ := e4
      rw [e3] at e4
      cases e4
      obtain ⟨⟨n, rfl⟩, hnx⟩ := endA_some h
      refine ⟨kid', s, a, b, d, n, rfl, hkn, hnx.trans hn1, rfl, fun G w xs hS hRL => ?_⟩
      obtain ⟨sb, pa, pb, pd, rfl, h0, h1, h2, h3, c1, ⟨gy, c2, r2⟩, ⟨fy, c3, r3⟩, hl⟩ := front G w xs hS hRL
      obtain rfl := r2.map_val
      obtain ⟨y, hl2, ry⟩ := lk_two hS (t := 179) (e := 167) (by kernel_rfl) (by kernel_rfl) (by kernel_rfl) r2 h0 hg
      obtain rfl := ry.map_val
      rcases keysA_ok (P := Tryz.prog) hS ry hks with ⟨hh, _, _⟩ | ⟨id, o, es, ck, hid, hy, hal, hbm, hsz', hkey⟩
      · cases hh
      cases hid
      obtain ⟨e, rfl⟩ : ∃ e, es = #[e] := by
        have := hsz'.1
        match es, this with
        | ⟨[e]⟩, _ => exact ⟨e, rfl⟩
      have hk := hkey 0 _ e rfl rfl
      have hborn := hsz'.2 0 e rfl
      have hbmlt := (hS.lt gm o hal).2
      obtain ⟨zs0, zs, rfl, hz0, hz⟩ := r3.fn
      obtain rfl : zs0 = [] := List.length_eq_zero_iff.1 hz0.1.symm
      obtain ⟨z1, z2, z3, rfl⟩ : ∃ z1 z2 z3, zs = [z1, z2, z3] := by
        have := hz.1
        match zs, this with
        | [z1, z2, z3], _ => exact ⟨z1, z2, z3, rfl⟩
      obtain ⟨ko, hko⟩ := lkA_alive hn0
      have hkidlt := (hS.lt _ _ hko).2
      have hkid : Lt M.next kid' := (hS.lt _ _ hko).1
      have hne : (G gm).b ≠ (G kid').b := fun he => by
        have := hS.inj _ _ _ _ hal hko he
        subst this
        simp at hgk
      have hE0 := alloc_ev w (.mapIter (some (G gm).b) ck #[] ck)
      have hit : (w.alloc (.mapIter (some (G gm).b) ck #[] ck)).heap[w.heap.size]? = some (.mapIter (some (G gm).b) ck #[] ck) := World.alloc_heap_new _ _
      have hlt1 : w.heap.size < (w.alloc (.mapIter (some (G gm).b) ck #[] ck)).heap.size := (Array.getElem?_eq_some_iff.1 hit).1
      have hE : Ev (fun _ => False) w (setBlock (w.alloc (.mapIter (some (G gm).b) ck #[] ck)) w.heap.size (.mapIter (some (G gm).b) ck #[e.born] ck)) := ev_none_grown hE0 (setBlock_grown _ _ _) fun r h => by cases h; exact Nat.le_refl _
      have hit2 := setBlock_same (w := w.alloc (.mapIter (some (G gm).b) ck #[] ck)) (o := .mapIter (some (G gm).b) ck #[e.born] ck) hlt1
      obtain ⟨hS1, hL⟩ := noise hS hE
      have hargs : RL (setBlock (w.alloc (.mapIter (some (G gm).b) ck #[] ck)) w.heap.size (.mapIter (some (G gm).b) ck #[e.born] ck)) (Own M.objs G) G (Lt M.next) [.p (.str k), a', b', d'] [e.key, z1, z2, z3] :=
        RL.cons (hL _ _ (R.p hk)) ⟨hz.1, fun i v x h1 h2 => hL _ _ (hz.2 i v x h1 h2)⟩
      have hC := hcall G _ _ hS1 hargs
      have hsz1 : w.heap.size < (setBlock (w.alloc (.mapIter (some (G gm).b) ck #[] ck)) w.heap.size (.mapIter (some (G gm).b) ck #[e.born] ck)).heap.size := (Array.getElem?_eq_some_iff.1 hit2).1
      refine w93_one sb pa pb pd z1 z2 z3 _ _ _ ck e w _ c1 hl c2 hl2 hbm hborn (hE.cell c3 fun h => h) (hC.mono fun e2 W2 => ?_)
      rintro ⟨rfl, G', hP, ho⟩
      obtain ⟨_, n', e5, hend⟩ := endA_ok (k := M.next) (objs := M1.objs) hP.st (hP.r (hL _ _ h1)) (hP.r (hL _ _ h0)) (by rw [← hn1]; exact h)
      refine ⟨q, hq9, rfl, (ho _ hsz1 (by omega)).trans hit2, (ho _ (Nat.lt_of_lt_of_le hbmlt hE.size) hne).trans ((hE.keep _ hbmlt fun h => h).trans hbm), hend.mono fun e3 w' => ?_⟩
      rintro ⟨rfl, G2, hP2, ho2⟩
      cases e5
      refine ⟨rfl, G2, noiseP hS hE (hP.trans hP2), fun b hb hne' => ?_⟩
      rw [ho2 b (by rw [hP.agree kid' hkid]; exact hne'), ho b (Nat.lt_of_lt_of_le hb hE.size) hne', hE.keep b hb fun h => h]
    · cases h
theorem depth_ok : ∀ n, DOk (depthA n)
  | 0 => fun _ _ _ _ h => by cases h
  | n + 1 => step_ok (depth_ok n)
theorem ext93_ok {vs : List AV} {M M' : Mem} {r : Rs} (h : ext93 vs M = some (r, M')) : RunOk Tryz.prog 103 vs M r M' := by
  intro G w xs hS hRL
  unfold ext93 at h
  obtain ⟨⟨r0, M0⟩, h0, h⟩ := ob_some.1 h
  cases h
  obtain ⟨kid, s, a, b, d, q, rfl, _, hn, hr, hC⟩ := depth_ok 64 _ _ _ _ h0
  refine ⟨⟨_, Tryz.func103, by kernel_rfl, by kernel_rfl⟩, (hC G w xs hS hRL).mono fun e w' => ?_⟩
  rintro ⟨rfl, G', hP, _⟩
  have hr : r0 = _ := hr
  subst hr
  have hn : M0.next = M.next := hn
  rw [hn]
  exact ⟨G', hP, Nat.le_refl _, _, rfl, R.p (.int _ _)⟩
end Go.Ab
