/- The reference's Valid and Encode, for the arithmetic operations. -/
import Derived.Test.YtieaicdihingkaaA0
import Derived.Test.YtieaicdihingkaaFlowX
import Derived.Deep.AppendLies
namespace Go.Proofs.Ytieaicdihingkaa
set_option linter.unusedVariables false
set_option linter.unusedSimpArgs false
open Go.RowKit
/-- What an arithmetic instruction of the law is like. -/
structure EncA (op q j s imm : Int) : Prop where
  ar : ArOp op q j
  him : OkU16 imm
  hs : 0 ≤ s ∧ s < 8
  c2 : q = 2 → s = 2 ∧ imm = 0
  c3 : q = 3 → s = 0 ∧ (imm < 128 ∨ 65408 ≤ imm)
  c4 : q = 4 → s = 0
theorem EncA.bd {op q j s imm : Int} (h : EncA op q j s imm) : 0 ≤ op ∧ op < 256 ∧ 2 ≤ q ∧ q ≤ 4 := by
  obtain ⟨hq, h0, h1, rfl⟩ := h.ar
  omega
set_option maxRecDepth 20000 in
set_option maxHeartbeats 8000000 in
theorem rvalid_ar (op q j s imm : Int) (w : World) (h : EncA op q j s imm) : Calls Try.prog 27 #[.agg #[.int .i64 op, .int .i64 1, .int .i64 s, .int .u16 imm, .int .u16 0, .int .i64 0, .int .i64 q]] w (fun e w' => e = .returned (.bool true) ∧ Below w.heap.size w w') := by
  have HF := Lib.hid fun W => format_ar op q j W h.ar
  have HZ := Lib.hid fun W => rsize_ar op q j W h.ar
  have H := Lib.hid h
  have hfc := h.bd
  have g0 : (q + 2 == 0) = false := by rw [beq_eq_false_iff_ne]; omega
  have gz : (q == q) = true := beq_self_eq_true q
  have qo : IntKind.u8.wrap op = op := by rw [IntKind.wrap_u8]; omega
  obtain ⟨sg, hsg⟩ : ∃ sg, (decide (imm < 128) || decide (65408 ≤ imm)) = sg := ⟨_, rfl⟩
  have HSG := Lib.hid hsg
  obtain ⟨f, hf⟩ : ∃ f, q + 2 = f := ⟨_, rfl⟩
  rw [hf] at HF g0
  have HFF := Lib.hid hf
  clear hfc h hsg hf
  go_enter Try.func27, Try.ntmps27
  go_upto_region 1 with (fail)
  generalize e0 : w.alloc _ = W0
  have HB0 := Lib.hid (al_bel e0)
  have KC : Hid (∀ W, Below W0.heap.size W0 W → W.cell? ⟨w.heap.size, 0, none⟩ = some (.int .i64 op) ∧ W.cell? ⟨w.heap.size, 1, none⟩ = some (.int .i64 1) ∧ W.cell? ⟨w.heap.size, 2, none⟩ = some (.int .i64 s) ∧ W.cell? ⟨w.heap.size, 3, none⟩ = some (.int .u16 imm) ∧ W.cell? ⟨w.heap.size, 4, none⟩ = some (.int .u16 0) ∧ W.cell? ⟨w.heap.size, 5, none⟩ = some (.int .i64 0) ∧ W.cell? ⟨w.heap.size, 6, none⟩ = some (.int .i64 q)) := Lib.hid fun W hW => by
    have hc := Lib.cell_of_heap (at_next hW (al_blk e0))
    exact ⟨hc 0, hc 1, hc 2, hc 3, hc 4, hc 5, hc 6⟩
  clear e0
  obtain ⟨i0, i1, i2, i3, i4, i5', i6⟩ := KC.out W0 (Below.refl _ _)
  go_wp2_with fail
  refine (HF.out _).mono ?_
  rintro e w1 ⟨rfl, h1⟩
  have HB1 := Lib.hid h1
  clear i0 i1 i2 i3 i4 i5' i6 h1
  go_upto_region 2 with (fail)
  refine wp_region_flow (S := fun W => Below w1.heap.size w1 W) (by kernel_rfl) (by kernel_rfl) (Below.drew (Below.refl _ _)) ?_
  refine Flow.step ?_ ?_ ?_
  rotate_left
  · intro V2 K hS hK
    go_simp
    exact hK _ hS
  simp only [Act.put, lA, lZ, lS]
  refine Flow.step ?_ ?_ ?_
  rotate_left
  · intro V2 K hS hK
    go_simp
    exact hK _ hS
  simp only [Act.put, lA, lZ, lS]
  refine Flow.step ?_ ?_ ?_
  rotate_left
  · intro V2 K hS hK
    go_simp
    exact hK _ hS
  simp only [Act.put, lA, lZ, lS]
  refine Flow.step ?_ ?_ ?_
  rotate_left
  · intro V2 K hS hK
    go_simp
    exact hK _ hS
  simp only [Act.put, lA, lZ, lS]
  refine Flow.step ?_ ?_ ?_
  rotate_left
  · intro V2 K hS hK
    obtain ⟨i0, i1, i2, i3, i4, i5', i6⟩ := KC.out _ (below_next HB1.out hS)
    go_simp
    exact hK _ hS
  simp only [Act.put, lA, lZ, lS]
  refine Flow.step ?_ ?_ ?_
  rotate_left
  · intro V2 K hS hK
    go_simp
    exact hK _ hS
  simp only [Act.put, lA, lZ, lS]
  refine Flow.step ?_ ?_ ?_
  rotate_left
  · intro V2 K hS hK
    obtain ⟨i0, i1, i2, i3, i4, i5', i6⟩ := KC.out _ (below_next HB1.out hS)
    go_simp
    exact hK _ hS
  simp only [Act.put, lA, lZ, lS]
  refine Flow.step ?_ ?_ ?_
  rotate_left
  · intro V2 K hS hK
    go_simp
    exact hK _ hS
  simp only [Act.put, lA, lZ, lS]
  refine Flow.step ?_ ?_ ?_
  rotate_left
  · intro V2 K hS hK
    go_simp
    go_at_call 44
    refine (HZ.out _).mono ?_
    rintro e w9 ⟨rfl, h9⟩
    exact hK _ (below_next hS h9)
  simp only [Act.put, lA, lZ, lS]
  refine Flow.step ?_ ?_ ?_
  rotate_left
  · intro V2 K hS hK
    go_simp
    exact hK _ hS
  simp only [Act.put, lA, lZ, lS]
  refine Flow.step ?_ ?_ ?_
  rotate_left
  · intro V2 K hS hK
    go_simp
    exact hK _ hS
  simp only [Act.put, lA, lZ, lS]
  refine Flow.done ?_
  intro V2 hS
  have HB2 := Lib.hid (below_next HB1.out hS)
  clear hS
  obtain ⟨i0, i1, i2, i3, i4, i5', i6⟩ := KC.out V2 HB2.out
  have hd0 : decide (0 ≤ s) = true := decide_eq_true H.out.hs.1
  have hd1 : decide (s < 8) = true := decide_eq_true H.out.hs.2
  go_wp2_with fail
  refine (reg_any' 1 true _ rfl rfl).mono ?_
  rintro e w3 ⟨rfl, rfl⟩
  go_wp2_with fail
  refine (reg_any' s true _ hd0 hd1).mono ?_
  rintro e w3 ⟨rfl, rfl⟩
  go_wp2_with fail
  refine (rsgn_any imm _ _ _ rfl rfl).mono ?_
  rintro e w3 ⟨rfl, rfl⟩
  rw [HSG.out]
  clear hd0 hd1
  go_upto_region 13 with (fail)
  have hq := H.out.ar.hq
  have hff := HFF.out
  rcases hq with rfl | rfl | rfl
  · obtain rfl : f = 4 := by omega
    obtain ⟨rfl, rfl⟩ := H.out.c2 rfl
    go_wp2_with fail
    exact bodyPost_ret (v := .bool true) (by simp [results, Try.results27, go_sem]) rfl ⟨rfl, below_next HB0.out HB2.out⟩
  · obtain rfl : f = 5 := by omega
    obtain ⟨rfl, hi⟩ := H.out.c3 rfl
    obtain rfl : true = sg := by
      rw [← HSG.out]
      rcases hi with h | h <;> simp [h]
    go_wp2_with fail
    exact bodyPost_ret (v := .bool true) (by simp [results, Try.results27, go_sem]) rfl ⟨rfl, below_next HB0.out HB2.out⟩
  · obtain rfl : f = 6 := by omega
    obtain rfl := H.out.c4 rfl
    go_wp2_with fail
    exact bodyPost_ret (v := .bool true) (by simp [results, Try.results27, go_sem]) rfl ⟨rfl, below_next HB0.out HB2.out⟩
def rencA (op q s imm : Int) : List Int := if q = 2 then [op, 18] else if q = 3 then [op, 1, imm % 256] else [op, 1, imm % 256, imm / 256]
def rencAB (op q s imm : Int) : ByteArray := ⟨(bytesI (rencA op q s imm)).toArray⟩
theorem rencA_bd {op q j s imm : Int} (h : EncA op q j s imm) : ∀ x ∈ rencA op q s imm, 0 ≤ x ∧ x < 256 := by
  have h1 := h.bd
  have h2 := h.him.1
  have h3 := h.him.2
  intro x hx
  unfold rencA at hx
  repeat' split at hx
  all_goals (simp at hx; omega)
theorem rencA_len (op q s imm : Int) : 1 ≤ (rencA op q s imm).length ∧ (rencA op q s imm).length ≤ 4 := by
  unfold rencA
  repeat' split
  all_goals simp
theorem slA_cells (W : World) (l : List Value) (j : Nat) (u : Value) (h : l[j]? = some u) : (W.alloc (.cells l.toArray 5)).cell? ((⟨W.heap.size, 0, none⟩ : Addr).add j) = some u := by
  rw [show (⟨W.heap.size, 0, none⟩ : Addr).add j = ⟨W.heap.size, j, none⟩ from by unfold Addr.add; by_cases hj : j = 0 <;> simp [hj], Lib.cell_of_heap (alloc_at W _) j]
  simpa using h
theorem rencA_conv {op q j s imm : Int} (h : EncA op q j s imm) {V : World} {v : Value} {b : Nat} (ho : V.ownsRow b 5 1 v (rencA op q s imm).length ((rencA op q s imm).map (Value.int .u8))) : (convert 49 9 v).run Try.prog V = .ok (.string (rencAB op q s imm)) V :=
  back_run V v (bytesI (rencA op q s imm)) b _ (by rw [bytesI_cells _ (rencA_bd h)]; exact OwnsM.of ho) (by
    have := (rencA_len op q s imm).1
    intro e
    rw [bytesI, List.map_eq_nil_iff] at e
    rw [e] at this
    exact absurd this (by decide))
theorem wp_app5 {o : Oper} {a : Act} {K : Act → World → Prop} {Q : Exit → Act → World → Prop} {w : World} (s x : Operand) (ho : o.op = .call { callee := .builtin .append, args := #[s, x], argTypes := #[49, 49] }) (base g0 n : Nat) (xs : List Value) (hs : a.eval s = .slice (some ⟨g0, 0, none⟩) n n) (hown : w.ownsRow base 5 1 (.slice (some ⟨g0, 0, none⟩) n n) n xs)
    (ad : Addr) (m c : Nat) (news : List Value) (hx : a.eval x = .slice (some ad) m c) (hl : news.length = m) (hnews : ∀ j u, news[j]? = some u → w.cell? (ad.add j) = some u) (h1 : ∀ u ∈ news, u.oneCell' = true) (hm : 0 < m) (hb : n + m ≤ 1000) (hbase : base ≤ w.heap.size)
    (h : ∀ v' w', w'.ownsRow base 5 1 v' (n + m) (xs ++ news) → Below w.heap.size w w' → K (a.put o.dst v') w') : o.wp Try.prog a w K Q := by
  obtain ⟨i5, hi5, hz5, hs5, hb5⟩ : ∃ i5, Try.prog.info? 5 = some i5 ∧ i5.zero = some (.int .u8 0) ∧ i5.size = 1 ∧ i5.bytes = 1 := by
    have := info5
    cases h : Try.prog.info? 5 with
    | none => rw [h] at this; cases this
    | some x => rw [h] at this; simp at this; exact ⟨x, rfl, this⟩
  obtain ⟨v', w', hr, h2, h3, h4⟩ := run_append_own (P := Try.prog) w base 49 o.type 5 i5 (.int .u8 0) 1 1 Try.underlying49 hi5 hz5 hs5 hb5 rfl (by decide) _ n xs hown ad m c news (by omega) hnews h1 (by unfold maxLen; omega) (by omega) hbase
  have hxl : xs.length = n := by have := hown.1; omega
  obtain ⟨p, cc, ep, _, hp⟩ := own_slice hown
  have hcell : ∀ j v, xs[j]? = some v → w.cell? ((⟨g0, 0, none⟩ : Addr).add j) = some v := fun j v hj => by
    rcases hp with h0 | ⟨g, rfl, _, _, hg⟩
    · have := (List.getElem?_eq_some_iff.1 hj).1; omega
    · have e2 : g0 = g ∧ n = cc := by simpa using ep
      obtain ⟨rfl, _⟩ := e2
      rw [show (⟨g0, 0, none⟩ : Addr).add j = ⟨g0, j, none⟩ from by unfold Addr.add; by_cases hj : j = 0 <;> simp [hj]]
      exact (hg j v hj).1
  have hg := run_append_grow (P := Try.prog) w 49 o.type 5 i5 (.int .u8 0) Try.underlying49 hi5 hz5 ⟨g0, 0, none⟩ n n xs (by rw [hs5]; omega) hcell ad m c news (by rw [hs5]; omega) hnews (by omega) (by omega) (growslice_fits (by omega) (by rw [hb5]; omega))
  have hbw : Below w.heap.size w w' := by
    rw [hg] at hr
    injection hr with _ e2
    subst e2
    exact below_alloc (Below.drew (Below.refl _ _)) _
  unfold Oper.wp execOp
  simp only [ho, resolve, invoke, builtin, Sem.run_bind, Sem.run_pure, Result.andThen_ok, List.map_toArray, List.map_cons, List.map_nil, hs, hx, hr]
  exact h v' w' h2 hbw
set_option maxRecDepth 20000 in
set_option maxHeartbeats 8000000 in
theorem rencode_ar (op q j s imm : Int) (w : World) (h : EncA op q j s imm) : Calls Try.prog 11 #[.agg #[.int .i64 op, .int .i64 1, .int .i64 s, .int .u16 imm, .int .u16 0, .int .i64 0, .int .i64 q]] w (fun e w' => e = .returned (.tuple #[.string (rencAB op q s imm), .int .i64 0]) ∧ Below w.heap.size w w') := by
  obtain ⟨i5, hi5, hz5, hs5, hb5⟩ : ∃ i5, Try.prog.info? 5 = some i5 ∧ i5.zero = some (.int .u8 0) ∧ i5.size = 1 ∧ i5.bytes = 1 := by
    have := info5
    cases h : Try.prog.info? 5 with
    | none => rw [h] at this; cases this
    | some x => rw [h] at this; simp at this; exact ⟨x, rfl, this⟩
  have KN := Lib.hid (And.intro hi5 (And.intro hz5 (And.intro hs5 hb5)))
  have HF := Lib.hid fun W => format_ar op q j W h.ar
  have HV := Lib.hid fun W => rvalid_ar op q j s imm W h
  have H := Lib.hid h
  have hfc := h.bd
  have g0 : (q + 2 == 0) = false := by rw [beq_eq_false_iff_ne]; omega
  have qo : IntKind.u8.wrap op = op := by rw [IntKind.wrap_u8]; omega
  have hs := h.hs
  have q16 : IntKind.i64.wrap (16 + s) = 16 + s := IntWalk.i64_in _ (by omega)
  have q17 : IntKind.u8.wrap (16 + s) = 16 + s := by rw [IntKind.wrap_u8]; omega
  have him := h.him
  have m0 := him.1
  have m1 := him.2
  obtain ⟨f, hf⟩ : ∃ f, q + 2 = f := ⟨_, rfl⟩
  rw [hf] at HF g0
  have HFF := Lib.hid hf
  clear hfc h hi5 hz5 hs5 hb5 hs him hf
  go_enter Try.func11, Try.ntmps11
  go_upto_region 1 with (fail)
  generalize e0 : w.alloc _ = W0
  have HB0 := Lib.hid (al_bel e0)
  have KC : Hid (∀ W, Below W0.heap.size W0 W → W.cell? ⟨w.heap.size, 0, none⟩ = some (.int .i64 op) ∧ W.cell? ⟨w.heap.size, 1, none⟩ = some (.int .i64 1) ∧ W.cell? ⟨w.heap.size, 2, none⟩ = some (.int .i64 s) ∧ W.cell? ⟨w.heap.size, 3, none⟩ = some (.int .u16 imm) ∧ W.cell? ⟨w.heap.size, 4, none⟩ = some (.int .u16 0) ∧ W.cell? ⟨w.heap.size, 5, none⟩ = some (.int .i64 0) ∧ W.cell? ⟨w.heap.size, 6, none⟩ = some (.int .i64 q)) := Lib.hid fun W hW => by
    have hc := Lib.cell_of_heap (at_next hW (al_blk e0))
    exact ⟨hc 0, hc 1, hc 2, hc 3, hc 4, hc 5, hc 6⟩
  clear e0
  obtain ⟨i0, i1, i2, i3, i4, i5', i6⟩ := KC.out W0 (Below.refl _ _)
  go_wp2_with fail
  refine (HF.out _).mono ?_
  rintro e w1 ⟨rfl, h1⟩
  have HB1 := Lib.hid h1
  clear i0 i1 i2 i3 i4 i5' i6 h1
  obtain ⟨i0, i1, i2, i3, i4, i5', i6⟩ := KC.out w1 HB1.out
  go_wp2_with fail
  refine (HV.out _).mono ?_
  rintro e w2 ⟨rfl, h2⟩
  have HB2 := Lib.hid (below_next HB1.out h2)
  clear i0 i1 i2 i3 i4 i5' i6 h2
  obtain ⟨i0, i1, i2, i3, i4, i5', i6⟩ := KC.out w2 HB2.out
  go_upto_region 8 with (fail)
  generalize e3 : w2.alloc _ = W3
  have KO3 : Hid (W3.ownsRow w2.heap.size 5 1 (.slice (some ⟨w2.heap.size, 0, none⟩) 1 1) 1 [.int .u8 op]) := Lib.hid ⟨rfl, .inr ⟨w2.heap.size, 1, _, rfl, Nat.le_refl _, al_blk e3, by omega, by decide, rfl, rfl⟩⟩
  have HB3 := Lib.hid (below_next HB2.out (al_bel e3))
  have HQ3 := Lib.hid (al_bel e3)
  clear e3 i0 i1 i2 i3 i4 i5' i6
  obtain ⟨i0, i1, i2, i3, i4, i5', i6⟩ := KC.out W3 HB3.out
  go_wp2_with fail
  refine (two_any imm _ m0 m1).mono ?_
  rintro e w4 ⟨rfl, rfl⟩
  generalize e4 : W3.alloc _ = W4
  have HT4 := Lib.hid (al_blk e4)
  have KO4 := Lib.hid (own_next KO3.out (al_bel e4))
  have HB4 := Lib.hid (below_next HB3.out (al_bel e4))
  have HQ4 := Lib.hid (below_next HQ3.out (al_bel e4))
  clear e4 i0 i1 i2 i3 i4 i5' i6
  obtain ⟨i0, i1, i2, i3, i4, i5', i6⟩ := KC.out W4 HB4.out
  go_wp2_with fail
  refine (two_any 0 _ (by decide) (by decide)).mono ?_
  rintro e w5 ⟨rfl, rfl⟩
  generalize e5 : W4.alloc _ = W5
  have HT5 := Lib.hid (at_next (al_bel e5) HT4.out)
  have KO5 := Lib.hid (own_next KO4.out (al_bel e5))
  have HB5 := Lib.hid (below_next HB4.out (al_bel e5))
  have HQ5 := Lib.hid (below_next HQ4.out (al_bel e5))
  clear e5 i0 i1 i2 i3 i4 i5' i6 q16 qo g0 m0 m1
  go_upto_region 13 with (fail)
  have hq := H.out.ar.hq
  have hff := HFF.out
  rcases hq with rfl | rfl | rfl
  · obtain rfl : f = 4 := by omega
    obtain ⟨rfl, rfl⟩ := H.out.c2 rfl
    go_wp2_with (at_builtin; refine Hid.out ?_)
    refine Lib.hid ?_
    refine wpList_append_own _ rfl _ _ 49 rfl w2.heap.size 5 i5 (.int .u8 0) 1 1 Try.underlying49 KN.out.1 KN.out.2.1 KN.out.2.2.1 KN.out.2.2.2 rfl (by decide) _ _ _ rfl (own_next KO5.out (below1 W5 _)) _ _ _ ([18].map (Value.int .u8)) rfl (by simp) (fun j u hu => slA_cells W5 [.int .u8 18] j u hu) (one_bytes _) (by decide) (by decide) (Nat.le_trans HQ5.out.size (below1 W5 _).size) ?_
    intro v7 w7 hown7 hg7 _
    have HB7 := Lib.hid (below_next (below_next HB0.out HB2.out) (below_grown (below_alloc HQ5.out (Obj.cells #[.int .u8 18] 5)) (below_alloc HQ5.out (Obj.cells #[.int .u8 18] 5)).size hg7 (fun q hq => ((own_next KO5.out (below1 W5 (Obj.cells #[.int .u8 18] 5))).lt q hq).1)))
    have HCV := rencA_conv (b := w2.heap.size) H.out (V := w7) (v := v7) hown7
    go_wp2_with fail
    exact bodyPost_ret (v := .tuple #[.string (rencAB op 2 2 0), .int .i64 0]) (by simp [results, Try.results11, go_sem]) rfl ⟨rfl, HB7.out⟩
  · obtain rfl : f = 5 := by omega
    obtain ⟨rfl, hi⟩ := H.out.c3 rfl
    clear hi
    have c9 : W5.cell? ⟨W3.heap.size, 0, none⟩ = some (.int .u8 (imm % 256)) := Lib.cell_of_heap HT5.out 0
    go_wp2_with (at_builtin; refine Hid.out ?_)
    refine Lib.hid ?_
    refine wpList_append_own _ rfl _ _ 49 rfl w2.heap.size 5 i5 (.int .u8 0) 1 1 Try.underlying49 KN.out.1 KN.out.2.1 KN.out.2.2.1 KN.out.2.2.2 rfl (by decide) _ _ _ rfl (own_next KO5.out (below1 W5 _)) _ _ _ ([1, (imm % 256)].map (Value.int .u8)) rfl (by simp) (fun j u hu => slA_cells W5 [.int .u8 1, .int .u8 (imm % 256)] j u hu) (one_bytes _) (by decide) (by decide) (Nat.le_trans HQ5.out.size (below1 W5 _).size) ?_
    intro v7 w7 hown7 hg7 _
    have HB7 := Lib.hid (below_next (below_next HB0.out HB2.out) (below_grown (below_alloc HQ5.out (Obj.cells #[.int .u8 1, .int .u8 (imm % 256)] 5)) (below_alloc HQ5.out (Obj.cells #[.int .u8 1, .int .u8 (imm % 256)] 5)).size hg7 (fun q hq => ((own_next KO5.out (below1 W5 (Obj.cells #[.int .u8 1, .int .u8 (imm % 256)] 5))).lt q hq).1)))
    have HCV := rencA_conv (b := w2.heap.size) H.out (V := w7) (v := v7) hown7
    go_wp2_with fail
    exact bodyPost_ret (v := .tuple #[.string (rencAB op 3 0 imm), .int .i64 0]) (by simp [results, Try.results11, go_sem]) rfl ⟨rfl, HB7.out⟩
  · obtain rfl : f = 6 := by omega
    obtain rfl := H.out.c4 rfl
    clear q17 hff
    go_upto_region 27 with (fail)
    refine' wp_region_flowRX [[], [], [], [(79, 2)], [(80, 3)], [], [(82, 5)], [(83, 6)], [(78, 1), (81, 4), (84, 7)], [(77, 0), (85, 8)], [(77, 0), (78, 1), (79, 2), (80, 3), (81, 4), (82, 5), (83, 6), (84, 7), (85, 8), (86, 9)]] (relL [eqV _, eqV _, eqV _, eqV _, eqV _, eqV _, eqV _, eqV _, slTo (.cells #[.int .u8 1, .int .u8 (imm % 256), .int .u8 (imm / 256)] 5) 3 W5, fun v V => V.ownsRow w2.heap.size 5 1 v 4 [.int .u8 op, .int .u8 1, .int .u8 (imm % 256), .int .u8 (imm / 256)]]) (by kernel_rfl) (by kernel_rfl) ?_
    rotate_left 8
    refine FlowR.step ?_ ?_
    · intro V3 hV
      simp only [Dep, Act.put, lA, lZ, lS]
      intro K hK
      go_simp
      refine hK _ _ ?_ (Below.refl _ _)
      simp only [relL, List.getElem?_cons_zero, List.getElem?_cons_succ, eqV]
      exact rfl
    refine FlowR.step ?_ ?_
    · intro V3 hV
      simp only [Dep, Act.put, lA, lZ, lS]
      intro K hK
      go_simp
      refine hK _ _ ?_ (Below.refl _ _)
      simp only [relL, List.getElem?_cons_zero, List.getElem?_cons_succ, eqV]
      exact rfl
    refine FlowR.step ?_ ?_
    · intro V3 hV
      simp only [Dep, Act.put, lA, lZ, lS]
      intro K hK
      go_simp
      refine hK _ _ ?_ (Below.refl _ _)
      simp only [relL, List.getElem?_cons_zero, List.getElem?_cons_succ, eqV]
      exact rfl
    refine FlowR.step ?_ ?_
    · intro V3 hV
      simp only [Dep, Act.put, lA, lZ, lS]
      rintro x79 ⟨V79, rfl, hb79⟩
      intro K hK
      go_simp
      refine hK _ _ ?_ (Below.refl _ _)
      simp only [relL, List.getElem?_cons_zero, List.getElem?_cons_succ, eqV]
      exact rfl
    refine FlowR.step ?_ ?_
    · intro V3 hV
      simp only [Dep, Act.put, lA, lZ, lS]
      rintro x80 ⟨V80, rfl, hb80⟩
      intro K hK
      obtain c9 := Lib.cell_of_heap (at_next hV HT5.out) 0
      go_simp
      refine hK _ _ ?_ (Below.refl _ _)
      simp only [relL, List.getElem?_cons_zero, List.getElem?_cons_succ, eqV]
      exact rfl
    refine FlowR.step ?_ ?_
    · intro V3 hV
      simp only [Dep, Act.put, lA, lZ, lS]
      intro K hK
      go_simp
      refine hK _ _ ?_ (Below.refl _ _)
      simp only [relL, List.getElem?_cons_zero, List.getElem?_cons_succ, eqV]
      exact rfl
    refine FlowR.step ?_ ?_
    · intro V3 hV
      simp only [Dep, Act.put, lA, lZ, lS]
      rintro x82 ⟨V82, rfl, hb82⟩
      intro K hK
      go_simp
      refine hK _ _ ?_ (Below.refl _ _)
      simp only [relL, List.getElem?_cons_zero, List.getElem?_cons_succ, eqV]
      exact rfl
    refine FlowR.step ?_ ?_
    · intro V3 hV
      simp only [Dep, Act.put, lA, lZ, lS]
      rintro x83 ⟨V83, rfl, hb83⟩
      intro K hK
      obtain c10 := Lib.cell_of_heap (at_next hV HT5.out) 1
      go_simp
      refine hK _ _ ?_ (Below.refl _ _)
      simp only [relL, List.getElem?_cons_zero, List.getElem?_cons_succ, eqV]
      exact rfl
    refine FlowR.step ?_ ?_
    · intro V3 hV
      simp only [Dep, Act.put, lA, lZ, lS]
      rintro x78 ⟨V78, rfl, hb78⟩
      rintro x81 ⟨V81, rfl, hb81⟩
      rintro x84 ⟨V84, rfl, hb84⟩
      intro K hK
      go_simp
      exact hK _ _ ⟨V3, rfl, rfl, hV⟩ (below1 _ _)
    refine FlowR.step ?_ ?_
    · intro V3 hV
      simp only [Dep, Act.put, lA, lZ, lS]
      rintro x77 ⟨V77, rfl, hb77⟩
      rintro x85 ⟨V85, ⟨W9, rfl, rfl, hb9⟩, hb85⟩
      intro K hK
      refine (if_pos (by rfl)).mpr ?_
      refine wp_app5 _ _ rfl w2.heap.size w2.heap.size 1 [.int .u8 op] rfl (own_next KO5.out hV) ⟨W9.heap.size, 0, none⟩ 3 3 [.int .u8 1, .int .u8 (imm % 256), .int .u8 (imm / 256)] rfl rfl (news_at hb85 _ rfl) (by simp [Value.oneCell']) (by decide) (by decide) (Nat.le_trans HQ5.out.size hV.size) ?_
      intro v' w' ho hb
      exact hK _ _ ho hb
    refine FlowR.last ?_
    intro V3 hV
    simp only [Dep, Act.put, lA, lZ, lS]
    rintro x77 ⟨V77, rfl, hb77⟩
    rintro x78 ⟨V78, rfl, hb78⟩
    rintro x79 ⟨V79, rfl, hb79⟩
    rintro x80 ⟨V80, rfl, hb80⟩
    rintro x81 ⟨V81, rfl, hb81⟩
    rintro x82 ⟨V82, rfl, hb82⟩
    rintro x83 ⟨V83, rfl, hb83⟩
    rintro x84 ⟨V84, rfl, hb84⟩
    rintro x85 ⟨V85, ⟨W9, rfl, rfl, hb9⟩, hb85⟩
    rintro x86 ⟨V86, ho86, hb86⟩
    intro K hK
    go_simp
    refine hK _ _ ?_
    have HB7 := Lib.hid (below_next (below_next HB0.out HB5.out) hV)
    have HCV := rencA_conv (b := w2.heap.size) H.out (V := V3) (v := x86) (own_next ho86 hb86)
    clear hK hV ho86
    go_wp2_with fail
    exact bodyPost_ret (v := .tuple #[.string (rencAB op 4 0 imm), .int .i64 0]) (by simp [results, Try.results11, go_sem]) rfl ⟨rfl, HB7.out⟩
end Go.Proofs.Ytieaicdihingkaa
