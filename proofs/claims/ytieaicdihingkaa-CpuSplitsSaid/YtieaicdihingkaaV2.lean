/- The reference's Encode: of any instruction it gives some string. -/
import Derived.Test.YtieaicdihingkaaV1
import Derived.Test.YtieaicdihingkaaFlow
import Derived.Great.BuildSlice
namespace Go.Proofs.Ytieaicdihingkaa
set_option linter.unusedVariables false
set_option linter.unusedSimpArgs false
open Go.RowKit
theorem rtwo_any (n : Int) (w : World) (h0 : 0 ≤ n) (h1 : n < 65536) : Calls Try.prog 28 #[.int .u16 n] w fun e w' => e = .returned (.slice (some ⟨w.heap.size, 0, none⟩) 2 2) ∧ w' = w.alloc (.cells #[.int .u8 (n % 256), .int .u8 (n / 256)] 5) := by
 go_enter Try.func28, Try.ntmps28
 go_wp2_with fail
 exact bodyPost_ret (v := .slice (some ⟨w.heap.size, 0, none⟩) 2 2) (by simp [results, Try.results28, go_sem]) rfl ⟨rfl, rfl⟩
theorem wp_vapp {o : Oper} {a : Act} {K : Act → World → Prop} {Q : Exit → Act → World → Prop} {w : World} (s x : Operand) (ho : o.op = .call { callee := .builtin .append, args := #[s, x], argTypes := #[49, 49] }) (base g0 n : Nat) (xs : List Value) (hs : a.eval s = .slice (some ⟨g0, 0, none⟩) n n) (hown : w.ownsRow base 5 1 (.slice (some ⟨g0, 0, none⟩) n n) n xs)
    (ad : Addr) (m c : Nat) (news : List Value) (hx : a.eval x = .slice (some ad) m c) (hl : news.length = m) (hnews : ∀ j u, news[j]? = some u → w.cell? (ad.add j) = some u) (h1 : ∀ u ∈ news, u.oneCell' = true) (hm : 0 < m) (hb : n + m ≤ 1000) (hbase : base ≤ w.heap.size)
    (h : ∀ v' w', w'.ownsRow base 5 1 v' (n + m) (xs ++ news) → Below w.heap.size w w' → K (a.put o.dst v') w') : o.wp Try.prog a w K Q := by
  obtain ⟨i5, hi5, hz5, hs5, hb5⟩ : ∃ i5, Try.prog.info? 5 = some i5 ∧ i5.zero = some (.int .u8 0) ∧ i5.size = 1 ∧ i5.bytes = 1 := by
    have := info5
    cases h : Try.prog.info? 5 with
    | none => rw [h] at this; cases this
    | some x => rw [h] at this; simp at this; exact ⟨x, rfl, this⟩
  obtain ⟨v', w', hr, h2, h3, h4⟩ := run_append_own (P := Try.prog) w base 49 o.type 5 i5 (.int .u8 0) 1 1 Try.underlying49 hi5 hz5 hs5 hb5 rfl (by decide) _ n xs hown ad m c news (by omega) hnews h1 (by unfold maxLen; omega) (by omega) hbase
  have hxl : xs.length = n := by have := hown.1; omega
  obtain ⟨p, cc, ep, _, hp⟩ := own_slice hown
  have hcell : ∀ j v, xs[j]? = some v → w.cell? ((⟨g0, 0, none⟩ : Addr).add j) = some v := fun j v hj => by
    rcases hp with h0 | ⟨g, rfl, _, _, hg⟩
    · have := (List.getElem?_eq_some_iff.1 hj).1; omega
    · have e2 : g0 = g ∧ n = cc := by simpa using ep
      obtain ⟨rfl, _⟩ := e2
      rw [show (⟨g0, 0, none⟩ : Addr).add j = ⟨g0, j, none⟩ from by unfold Addr.add; by_cases hj : j = 0 <;> simp [hj]]
      exact (hg j v hj).1
  have hg := run_append_grow (P := Try.prog) w 49 o.type 5 i5 (.int .u8 0) Try.underlying49 hi5 hz5 ⟨g0, 0, none⟩ n n xs (by rw [hs5]; omega) hcell ad m c news (by rw [hs5]; omega) hnews (by omega) (by omega) (growslice_fits (by omega) (by rw [hb5]; omega))
  have hbw : Below w.heap.size w w' := by
    rw [hg] at hr
    injection hr with _ e2
    subst e2
    exact below_alloc (Below.drew (Below.refl _ _)) _
  unfold Oper.wp execOp
  simp only [ho, resolve, invoke, builtin, Sem.run_bind, Sem.run_pure, Result.andThen_ok, List.map_toArray, List.map_cons, List.map_nil, hs, hx, hr]
  exact h v' w' h2 hbw
theorem vconv {V : World} {v : Value} {b n : Nat} {l : List Int} (ho : V.ownsRow b 5 1 v n (l.map (Value.int .u8))) (hl : ∀ x ∈ l, 0 ≤ x ∧ x < 256) (h0 : l ≠ []) (h7 : l.length ≤ 7) : ∃ S : ByteArray, (convert 49 9 v).run Try.prog V = .ok (.string S) V ∧ S.size ≤ 7 := by
 refine ⟨⟨(bytesI l).toArray⟩, back_run V v (bytesI l) b _ (by rw [bytesI_cells _ hl]; exact OwnsM.of ho) (fun e => h0 (List.map_eq_nil_iff.1 e)), ?_⟩
 show (bytesI l).toArray.size ≤ 7
 rw [List.size_toArray, bytesI, List.length_map]
 exact h7
theorem wp_bytes {o : Oper} {a : Act} {w : World} {K : Act → World → Prop} {Q : Exit → Act → World → Prop} (len : Nat) (parts : Array (Nat × Operand)) (ho : o.op = .buildSlice 49 len parts) (cells : Array Value) (hp : 0 < len) (hl : len ≤ 1000)
  (hn : cells.toList.length = len) (h1 : ∀ v ∈ cells.toList, v.cells = #[v]) (hf : parts.toList.map (fun p => (p.1, a.eval p.2)) = (cells.toList.zipIdx 0).map fun x => (x.2, x.1))
  (h : K (a.put o.dst (.slice (some ⟨w.heap.size, 0, none⟩) len len)) (w.alloc (.cells cells 5))) : o.wp Try.prog a w K Q := by
 obtain ⟨i5, hi5, hz5, hs5, hb5⟩ : ∃ i5, Try.prog.info? 5 = some i5 ∧ i5.zero = some (.int .u8 0) ∧ i5.size = 1 ∧ i5.bytes = 1 := by
  have := info5
  cases h : Try.prog.info? 5 with
  | none => rw [h] at this; cases this
  | some x => rw [h] at this; simp at this; exact ⟨x, rfl, this⟩
 exact wp_buildSlice 49 5 len parts ho cells i5 (.int .u8 0) Try.underlying49 hi5 hz5 (by rw [hs5]; omega) (by rw [hs5]; omega) (by rw [hs5, (Array.toList_map ..).trans hf]; have h9 := Great.fill_flat cells.toList ((Array.range (len * 1)).map ((Value.int .u8 0).cells[· % (Value.int .u8 0).cells.size]!)) h1 (by simp [hn]); exact h9) h
def EncPost (w : World) (e : Ending) (w' : World) : Prop := ∃ (S : ByteArray) (c : Int), e = .returned (.tuple #[.string S, .int .i64 c]) ∧ S.size ≤ 7 ∧ Below w.heap.size w w'
set_option maxRecDepth 20000 in
set_option maxHeartbeats 40000000 in
theorem encode_some (op di si imm aux bank size : Int) (w : World) (hi : OkU16 imm) (ha : OkU16 aux) : Calls Try.prog 11 #[.agg #[.int .i64 op, .int .i64 di, .int .i64 si, .int .u16 imm, .int .u16 aux, .int .i64 bank, .int .i64 size]] w (EncPost w) := by
 obtain ⟨i5, hi5, hz5, hs5, hb5⟩ : ∃ i5, Try.prog.info? 5 = some i5 ∧ i5.zero = some (.int .u8 0) ∧ i5.size = 1 ∧ i5.bytes = 1 := by
  have := info5
  cases h : Try.prog.info? 5 with
  | none => rw [h] at this; cases this
  | some x => rw [h] at this; simp at this; exact ⟨x, rfl, this⟩
 have KN := Lib.hid (And.intro hi5 (And.intro hz5 (And.intro hs5 hb5)))
 have HF := Lib.hid fun W => rformat_any op W
 have HV := Lib.hid fun W => rvalid_any op di si imm aux bank size W
 have hbd := rfmt_bd op
 obtain ⟨f, hf⟩ : ∃ f, rfmt op = f := ⟨_, rfl⟩
 rw [hf] at HF hbd
 obtain ⟨vv, hvv⟩ : ∃ b, rvalidI ⟨op, di, si, imm, aux, bank, size⟩ = b := ⟨_, rfl⟩
 rw [hvv] at HV
 have hw8 : ∀ x : Int, ∃ y, IntKind.u8.wrap x = y ∧ 0 ≤ y ∧ y < 256 := fun x => ⟨x % 256, by rw [IntKind.wrap_u8], by omega, by omega⟩
 obtain ⟨O, qo, O0⟩ := hw8 op
 obtain ⟨D, qd, D0⟩ := hw8 di
 obtain ⟨p1, hp1⟩ : ∃ p1, IntKind.i64.wrap (16 * di) = p1 := ⟨_, rfl⟩
 obtain ⟨p2, hp2⟩ : ∃ p2, IntKind.i64.wrap (p1 + si) = p2 := ⟨_, rfl⟩
 obtain ⟨P, qp, P0⟩ := hw8 p2
 obtain ⟨BK, qb, B0⟩ := hw8 bank
 obtain ⟨S8, qs, S0⟩ := hw8 si
 have HBD : Hid ((0 ≤ f ∧ f ≤ 18) ∧ (0 ≤ O ∧ O < 256) ∧ (0 ≤ D ∧ D < 256) ∧ (0 ≤ P ∧ P < 256) ∧ (0 ≤ BK ∧ BK < 256) ∧ (0 ≤ S8 ∧ S8 < 256) ∧ (0 ≤ imm % 256 ∧ imm % 256 < 256) ∧ (0 ≤ imm / 256 ∧ imm / 256 < 256) ∧ (0 ≤ aux % 256 ∧ aux % 256 < 256) ∧ (0 ≤ aux / 256 ∧ aux / 256 < 256)) := Lib.hid (by
  have := hi.1
  have := hi.2
  have := ha.1
  have := ha.2
  exact ⟨hbd, O0, D0, P0, B0, S0, by omega, by omega, by omega, by omega⟩)
 have m0 := hi.1
 have m1 := hi.2
 have a0 := ha.1
 have a1 := ha.2
 obtain ⟨u, hu⟩ : ∃ u, (f == 0) = u := ⟨_, rfl⟩
 have HU := Lib.hid hu
 clear hi ha hi5 hz5 hs5 hb5 hbd hf hvv hw8 O0 D0 P0 B0 S0
 go_enter Try.func11, Try.ntmps11
 go_upto_region 1 with (fail)
 generalize e0 : w.alloc _ = W0
 have HB0 := Lib.hid (v_bel e0)
 have KC : Hid (∀ W, Below W0.heap.size W0 W → W.cell? ⟨w.heap.size, 0, none⟩ = some (.int .i64 op) ∧ W.cell? ⟨w.heap.size, 1, none⟩ = some (.int .i64 di) ∧ W.cell? ⟨w.heap.size, 2, none⟩ = some (.int .i64 si) ∧ W.cell? ⟨w.heap.size, 3, none⟩ = some (.int .u16 imm) ∧ W.cell? ⟨w.heap.size, 4, none⟩ = some (.int .u16 aux) ∧ W.cell? ⟨w.heap.size, 5, none⟩ = some (.int .i64 bank) ∧ W.cell? ⟨w.heap.size, 6, none⟩ = some (.int .i64 size)) := Lib.hid fun W hW => by
  have hc := Lib.cell_of_heap (v_next hW (v_blk e0))
  exact ⟨hc 0, hc 1, hc 2, hc 3, hc 4, hc 5, hc 6⟩
 clear e0
 obtain ⟨i0, i1, i2, i3, i4, i5', i6⟩ := KC.out W0 (Below.refl _ _)
 go_wp2_with fail
 refine (HF.out _).mono ?_
 rintro e w1 ⟨rfl, h1⟩
 have HB1 := Lib.hid h1
 clear i0 i1 i2 i3 i4 i5' i6 h1
 obtain ⟨i0, i1, i2, i3, i4, i5', i6⟩ := KC.out w1 HB1.out
 cases u
 rotate_left
 ·go_wp2_with fail
  exact bodyPost_ret (v := .tuple #[.string ⟨#[]⟩, .int .i64 11]) (by simp [results, Try.results11, go_sem]) rfl ⟨_, _, rfl, by decide, below_next HB0.out HB1.out⟩
 go_wp2_with fail
 refine (HV.out _).mono ?_
 rintro e w2 ⟨rfl, h2⟩
 have HB2 := Lib.hid (below_next HB1.out h2)
 clear i0 i1 i2 i3 i4 i5' i6 h2
 obtain ⟨i0, i1, i2, i3, i4, i5', i6⟩ := KC.out w2 HB2.out
 cases vv
 ·go_wp2_with fail
  exact bodyPost_ret (v := .tuple #[.string ⟨#[]⟩, .int .i64 3]) (by simp [results, Try.results11, go_sem]) rfl ⟨_, _, rfl, by decide, below_next HB0.out HB2.out⟩
 go_upto_region 8 with (fail)
 generalize e3 : w2.alloc _ = W3
 have KO3 : Hid (W3.ownsRow w2.heap.size 5 1 (.slice (some ⟨w2.heap.size, 0, none⟩) 1 1) 1 [.int .u8 O]) := Lib.hid ⟨rfl, .inr ⟨w2.heap.size, 1, _, rfl, Nat.le_refl _, v_blk e3, by omega, by decide, rfl, rfl⟩⟩
 have HB3 := Lib.hid (below_next HB2.out (v_bel e3))
 have HQ3 := Lib.hid (v_bel e3)
 clear e3 i0 i1 i2 i3 i4 i5' i6
 obtain ⟨i0, i1, i2, i3, i4, i5', i6⟩ := KC.out W3 HB3.out
 go_wp2_with fail
 refine (rtwo_any imm _ m0 m1).mono ?_
 rintro e w4 ⟨rfl, rfl⟩
 generalize e4 : W3.alloc _ = W4
 have HT4 := Lib.hid (v_blk e4)
 have KO4 := Lib.hid (own_next KO3.out (v_bel e4))
 have HB4 := Lib.hid (below_next HB3.out (v_bel e4))
 have HQ4 := Lib.hid (below_next HQ3.out (v_bel e4))
 clear e4 i0 i1 i2 i3 i4 i5' i6
 obtain ⟨i0, i1, i2, i3, i4, i5', i6⟩ := KC.out W4 HB4.out
 go_wp2_with fail
 refine (rtwo_any aux _ a0 a1).mono ?_
 rintro e w5 ⟨rfl, rfl⟩
 generalize e5 : W4.alloc _ = W5
 have HA5 := Lib.hid (v_blk e5)
 have HT5 := Lib.hid (v_next (v_bel e5) HT4.out)
 have KO5 := Lib.hid (own_next KO4.out (v_bel e5))
 have HB5 := Lib.hid (below_next HB4.out (v_bel e5))
 have HQ5 := Lib.hid (below_next HQ4.out (v_bel e5))
 clear e5 i0 i1 i2 i3 i4 i5' i6 qo m0 m1 a0 a1 KO3 KO4 HB3 HB4 HQ3 HQ4 HT4
 go_upto_region 13 with (fail)
 have HCV : Hid (∀ (V : World) (v : Value) (n : Nat) (l : List Int), V.ownsRow w2.heap.size 5 1 v n (l.map (Value.int .u8)) → (∀ x ∈ l, 0 ≤ x ∧ x < 256) → l ≠ [] → l.length ≤ 7 → ∃ S : ByteArray, (convert 49 9 v).run Try.prog V = .ok (.string S) V ∧ S.size ≤ 7) := Lib.hid fun V v n l a b c d => vconv a b c d
 have HCC : Hid (∀ W, Below W5.heap.size W5 W → W.cell? ⟨W3.heap.size, 0, none⟩ = some (.int .u8 (imm % 256)) ∧ W.cell? ⟨W3.heap.size, 1, none⟩ = some (.int .u8 (imm / 256)) ∧ W.cell? ⟨W4.heap.size, 0, none⟩ = some (.int .u8 (aux % 256)) ∧ W.cell? ⟨W4.heap.size, 1, none⟩ = some (.int .u8 (aux / 256))) := Lib.hid fun W hW => ⟨Lib.cell_of_heap (v_next hW HT5.out) 0, Lib.cell_of_heap (v_next hW HT5.out) 1, Lib.cell_of_heap (v_next hW HA5.out) 0, Lib.cell_of_heap (v_next hW HA5.out) 1⟩
 obtain ⟨lo, hlo⟩ : ∃ x, imm % 256 = x := ⟨_, rfl⟩
 obtain ⟨hi, hhi⟩ : ∃ x, imm / 256 = x := ⟨_, rfl⟩
 obtain ⟨al, hal⟩ : ∃ x, aux % 256 = x := ⟨_, rfl⟩
 obtain ⟨ah, hah⟩ : ∃ x, aux / 256 = x := ⟨_, rfl⟩
 rw [hlo, hhi, hal, hah] at HCC HBD
 clear hlo hhi hal hah
 obtain ⟨x, hx⟩ : ∃ x, (f == 2) = x := ⟨_, rfl⟩
 cases x
 rotate_left
 ·as_aux_lemma =>
  obtain ⟨c9, _, _, _⟩ := HCC.out W5 (Below.refl _ _)
  go_wp2_with (at_builtin; refine Hid.out ?_)
  refine Lib.hid ?_
  refine wpList_append_own _ rfl _ _ 49 rfl w2.heap.size 5 i5 (.int .u8 0) 1 1 Try.underlying49 KN.out.1 KN.out.2.1 KN.out.2.2.1 KN.out.2.2.2 rfl (by decide) _ _ _ rfl (own_next KO5.out (below1 W5 _)) _ _ _ ([D].map (Value.int .u8)) rfl (by simp) (news_at (Below.refl _ _) _ rfl) (one_bytes _) (by decide) (by decide) (Nat.le_trans HQ5.out.size (below1 W5 _).size) ?_
  intro v7 w7 hown7 hg7 _
  have HB7 := Lib.hid (below_next (below_next HB0.out HB2.out) (below_grown (below_alloc HQ5.out (Obj.cells #[.int .u8 D] 5)) (below_alloc HQ5.out (Obj.cells #[.int .u8 D] 5)).size hg7 (fun q hq => ((own_next KO5.out (below1 W5 (Obj.cells #[.int .u8 D] 5))).lt q hq).1)))
  obtain ⟨S, hcv, hss⟩ := HCV.out w7 v7 _ [O, D] hown7 (by simp only [List.mem_cons, List.not_mem_nil, or_false]; rintro x (rfl | rfl); all_goals first | exact HBD.out.2.1 | exact HBD.out.2.2.1) (by simp) (by simp)
  have HSS := Lib.hid hss
  clear hss
  go_wp2_with fail
  exact bodyPost_ret (v := .tuple #[.string S, .int .i64 0]) (by simp [results, Try.results11, go_sem]) rfl ⟨S, 0, rfl, HSS.out, HB7.out⟩
 go_upto_region 15 with (fail)
 clear hx
 obtain ⟨x, hx⟩ : ∃ x, (f == 3) = x := ⟨_, rfl⟩
 cases x
 rotate_left
 ·as_aux_lemma =>
  obtain ⟨c9, _, _, _⟩ := HCC.out W5 (Below.refl _ _)
  go_wp2_with (at_builtin; refine Hid.out ?_)
  refine Lib.hid ?_
  refine wpList_append_own _ rfl _ _ 49 rfl w2.heap.size 5 i5 (.int .u8 0) 1 1 Try.underlying49 KN.out.1 KN.out.2.1 KN.out.2.2.1 KN.out.2.2.2 rfl (by decide) _ _ _ rfl (own_next KO5.out (below1 W5 _)) _ _ _ ([lo].map (Value.int .u8)) rfl (by simp) (news_at (Below.refl _ _) _ rfl) (one_bytes _) (by decide) (by decide) (Nat.le_trans HQ5.out.size (below1 W5 _).size) ?_
  intro v7 w7 hown7 hg7 _
  have HB7 := Lib.hid (below_next (below_next HB0.out HB2.out) (below_grown (below_alloc HQ5.out (Obj.cells #[.int .u8 lo] 5)) (below_alloc HQ5.out (Obj.cells #[.int .u8 lo] 5)).size hg7 (fun q hq => ((own_next KO5.out (below1 W5 (Obj.cells #[.int .u8 lo] 5))).lt q hq).1)))
  obtain ⟨S, hcv, hss⟩ := HCV.out w7 v7 _ [O, lo] hown7 (by simp only [List.mem_cons, List.not_mem_nil, or_false]; rintro x (rfl | rfl); all_goals first | exact HBD.out.2.1 | exact HBD.out.2.2.2.2.2.2.1) (by simp) (by simp)
  have HSS := Lib.hid hss
  clear hss
  go_wp2_with fail
  exact bodyPost_ret (v := .tuple #[.string S, .int .i64 0]) (by simp [results, Try.results11, go_sem]) rfl ⟨S, 0, rfl, HSS.out, HB7.out⟩
 go_upto_region 16 with (fail)
 clear hx
 obtain ⟨x, hx⟩ : ∃ x, (f == 10) = x := ⟨_, rfl⟩
 cases x
 rotate_left
 ·as_aux_lemma =>
  obtain ⟨c9, _, _, _⟩ := HCC.out W5 (Below.refl _ _)
  go_wp2_with (at_builtin; refine Hid.out ?_)
  refine Lib.hid ?_
  refine wpList_append_own _ rfl _ _ 49 rfl w2.heap.size 5 i5 (.int .u8 0) 1 1 Try.underlying49 KN.out.1 KN.out.2.1 KN.out.2.2.1 KN.out.2.2.2 rfl (by decide) _ _ _ rfl (own_next KO5.out (below1 W5 _)) _ _ _ ([lo].map (Value.int .u8)) rfl (by simp) (news_at (Below.refl _ _) _ rfl) (one_bytes _) (by decide) (by decide) (Nat.le_trans HQ5.out.size (below1 W5 _).size) ?_
  intro v7 w7 hown7 hg7 _
  have HB7 := Lib.hid (below_next (below_next HB0.out HB2.out) (below_grown (below_alloc HQ5.out (Obj.cells #[.int .u8 lo] 5)) (below_alloc HQ5.out (Obj.cells #[.int .u8 lo] 5)).size hg7 (fun q hq => ((own_next KO5.out (below1 W5 (Obj.cells #[.int .u8 lo] 5))).lt q hq).1)))
  obtain ⟨S, hcv, hss⟩ := HCV.out w7 v7 _ [O, lo] hown7 (by simp only [List.mem_cons, List.not_mem_nil, or_false]; rintro x (rfl | rfl); all_goals first | exact HBD.out.2.1 | exact HBD.out.2.2.2.2.2.2.1) (by simp) (by simp)
  have HSS := Lib.hid hss
  clear hss
  go_wp2_with fail
  exact bodyPost_ret (v := .tuple #[.string S, .int .i64 0]) (by simp [results, Try.results11, go_sem]) rfl ⟨S, 0, rfl, HSS.out, HB7.out⟩
 go_upto_region 18 with (fail)
 clear hx
 obtain ⟨x, hx⟩ : ∃ x, (f == 4) = x := ⟨_, rfl⟩
 cases x
 rotate_left
 ·as_aux_lemma =>
  obtain ⟨c9, _, _, _⟩ := HCC.out W5 (Below.refl _ _)
  go_wp2_with (at_builtin; refine Hid.out ?_)
  refine Lib.hid ?_
  refine wpList_append_own _ rfl _ _ 49 rfl w2.heap.size 5 i5 (.int .u8 0) 1 1 Try.underlying49 KN.out.1 KN.out.2.1 KN.out.2.2.1 KN.out.2.2.2 rfl (by decide) _ _ _ rfl (own_next KO5.out (below1 W5 _)) _ _ _ ([P].map (Value.int .u8)) rfl (by simp) (news_at (Below.refl _ _) _ rfl) (one_bytes _) (by decide) (by decide) (Nat.le_trans HQ5.out.size (below1 W5 _).size) ?_
  intro v7 w7 hown7 hg7 _
  have HB7 := Lib.hid (below_next (below_next HB0.out HB2.out) (below_grown (below_alloc HQ5.out (Obj.cells #[.int .u8 P] 5)) (below_alloc HQ5.out (Obj.cells #[.int .u8 P] 5)).size hg7 (fun q hq => ((own_next KO5.out (below1 W5 (Obj.cells #[.int .u8 P] 5))).lt q hq).1)))
  obtain ⟨S, hcv, hss⟩ := HCV.out w7 v7 _ [O, P] hown7 (by simp only [List.mem_cons, List.not_mem_nil, or_false]; rintro x (rfl | rfl); all_goals first | exact HBD.out.2.1 | exact HBD.out.2.2.2.1) (by simp) (by simp)
  have HSS := Lib.hid hss
  clear hss
  go_wp2_with fail
  exact bodyPost_ret (v := .tuple #[.string S, .int .i64 0]) (by simp [results, Try.results11, go_sem]) rfl ⟨S, 0, rfl, HSS.out, HB7.out⟩
 go_upto_region 20 with (fail)
 clear hx
 obtain ⟨x, hx⟩ : ∃ x, (f == 5) = x := ⟨_, rfl⟩
 cases x
 rotate_left
 ·as_aux_lemma =>
  obtain ⟨c9, _, _, _⟩ := HCC.out W5 (Below.refl _ _)
  go_wp2_with (at_builtin; refine Hid.out ?_)
  refine Lib.hid ?_
  refine wpList_append_own _ rfl _ _ 49 rfl w2.heap.size 5 i5 (.int .u8 0) 1 1 Try.underlying49 KN.out.1 KN.out.2.1 KN.out.2.2.1 KN.out.2.2.2 rfl (by decide) _ _ _ rfl (own_next KO5.out (below1 W5 _)) _ _ _ ([D, lo].map (Value.int .u8)) rfl (by simp) (news_at (Below.refl _ _) _ rfl) (one_bytes _) (by decide) (by decide) (Nat.le_trans HQ5.out.size (below1 W5 _).size) ?_
  intro v7 w7 hown7 hg7 _
  have HB7 := Lib.hid (below_next (below_next HB0.out HB2.out) (below_grown (below_alloc HQ5.out (Obj.cells #[.int .u8 D, .int .u8 lo] 5)) (below_alloc HQ5.out (Obj.cells #[.int .u8 D, .int .u8 lo] 5)).size hg7 (fun q hq => ((own_next KO5.out (below1 W5 (Obj.cells #[.int .u8 D, .int .u8 lo] 5))).lt q hq).1)))
  obtain ⟨S, hcv, hss⟩ := HCV.out w7 v7 _ [O, D, lo] hown7 (by simp only [List.mem_cons, List.not_mem_nil, or_false]; rintro x (rfl | rfl | rfl); all_goals first | exact HBD.out.2.1 | exact HBD.out.2.2.1 | exact HBD.out.2.2.2.2.2.2.1) (by simp) (by simp)
  have HSS := Lib.hid hss
  clear hss
  go_wp2_with fail
  exact bodyPost_ret (v := .tuple #[.string S, .int .i64 0]) (by simp [results, Try.results11, go_sem]) rfl ⟨S, 0, rfl, HSS.out, HB7.out⟩
 go_upto_region 21 with (fail)
 clear hx
 obtain ⟨x, hx⟩ : ∃ x, (f == 15) = x := ⟨_, rfl⟩
 cases x
 rotate_left
 ·as_aux_lemma =>
  obtain ⟨c9, _, _, _⟩ := HCC.out W5 (Below.refl _ _)
  go_wp2_with (at_builtin; refine Hid.out ?_)
  refine Lib.hid ?_
  refine wpList_append_own _ rfl _ _ 49 rfl w2.heap.size 5 i5 (.int .u8 0) 1 1 Try.underlying49 KN.out.1 KN.out.2.1 KN.out.2.2.1 KN.out.2.2.2 rfl (by decide) _ _ _ rfl (own_next KO5.out (below1 W5 _)) _ _ _ ([D, lo].map (Value.int .u8)) rfl (by simp) (news_at (Below.refl _ _) _ rfl) (one_bytes _) (by decide) (by decide) (Nat.le_trans HQ5.out.size (below1 W5 _).size) ?_
  intro v7 w7 hown7 hg7 _
  have HB7 := Lib.hid (below_next (below_next HB0.out HB2.out) (below_grown (below_alloc HQ5.out (Obj.cells #[.int .u8 D, .int .u8 lo] 5)) (below_alloc HQ5.out (Obj.cells #[.int .u8 D, .int .u8 lo] 5)).size hg7 (fun q hq => ((own_next KO5.out (below1 W5 (Obj.cells #[.int .u8 D, .int .u8 lo] 5))).lt q hq).1)))
  obtain ⟨S, hcv, hss⟩ := HCV.out w7 v7 _ [O, D, lo] hown7 (by simp only [List.mem_cons, List.not_mem_nil, or_false]; rintro x (rfl | rfl | rfl); all_goals first | exact HBD.out.2.1 | exact HBD.out.2.2.1 | exact HBD.out.2.2.2.2.2.2.1) (by simp) (by simp)
  have HSS := Lib.hid hss
  clear hss
  go_wp2_with fail
  exact bodyPost_ret (v := .tuple #[.string S, .int .i64 0]) (by simp [results, Try.results11, go_sem]) rfl ⟨S, 0, rfl, HSS.out, HB7.out⟩
 go_upto_region 22 with (fail)
 clear hx
 obtain ⟨x, hx⟩ : ∃ x, (f == 18) = x := ⟨_, rfl⟩
 cases x
 rotate_left
 ·as_aux_lemma =>
  obtain ⟨c9, _, _, _⟩ := HCC.out W5 (Below.refl _ _)
  go_wp2_with (at_builtin; refine Hid.out ?_)
  refine Lib.hid ?_
  refine wpList_append_own _ rfl _ _ 49 rfl w2.heap.size 5 i5 (.int .u8 0) 1 1 Try.underlying49 KN.out.1 KN.out.2.1 KN.out.2.2.1 KN.out.2.2.2 rfl (by decide) _ _ _ rfl (own_next KO5.out (below1 W5 _)) _ _ _ ([D, lo].map (Value.int .u8)) rfl (by simp) (news_at (Below.refl _ _) _ rfl) (one_bytes _) (by decide) (by decide) (Nat.le_trans HQ5.out.size (below1 W5 _).size) ?_
  intro v7 w7 hown7 hg7 _
  have HB7 := Lib.hid (below_next (below_next HB0.out HB2.out) (below_grown (below_alloc HQ5.out (Obj.cells #[.int .u8 D, .int .u8 lo] 5)) (below_alloc HQ5.out (Obj.cells #[.int .u8 D, .int .u8 lo] 5)).size hg7 (fun q hq => ((own_next KO5.out (below1 W5 (Obj.cells #[.int .u8 D, .int .u8 lo] 5))).lt q hq).1)))
  obtain ⟨S, hcv, hss⟩ := HCV.out w7 v7 _ [O, D, lo] hown7 (by simp only [List.mem_cons, List.not_mem_nil, or_false]; rintro x (rfl | rfl | rfl); all_goals first | exact HBD.out.2.1 | exact HBD.out.2.2.1 | exact HBD.out.2.2.2.2.2.2.1) (by simp) (by simp)
  have HSS := Lib.hid hss
  clear hss
  go_wp2_with fail
  exact bodyPost_ret (v := .tuple #[.string S, .int .i64 0]) (by simp [results, Try.results11, go_sem]) rfl ⟨S, 0, rfl, HSS.out, HB7.out⟩
 go_upto_region 24 with (fail)
 clear hx
 obtain ⟨x, hx⟩ : ∃ x, (f == 6) = x := ⟨_, rfl⟩
 cases x
 rotate_left
 ·as_aux_lemma =>
  go_upto_region 27 with (fail)
  refine' wp_region_flowR [[], [], [], [(79, 2)], [(80, 3)], [], [(82, 5)], [(83, 6)], [(78, 1), (81, 4), (84, 7)], [(77, 0), (85, 8)], [(77, 0), (78, 1), (79, 2), (80, 3), (81, 4), (82, 5), (83, 6), (84, 7), (85, 8), (86, 9)]] (relL [eqV _, eqV _, eqV _, eqV _, eqV _, eqV _, eqV _, eqV _, slTo (.cells #[.int .u8 D, .int .u8 lo, .int .u8 hi] 5) 3 W5, fun v V => V.ownsRow w2.heap.size 5 1 v 4 [.int .u8 O, .int .u8 D, .int .u8 lo, .int .u8 hi]]) (by kernel_rfl) (by kernel_rfl) ?_
  rotate_left 8
  iterate 8
   refine FlowR.step ?_ ?_
   ·intro V3 hV
    simp only [Dep, lQ]
    repeat rintro _ ⟨_, rfl, _⟩
    intro K hK
    obtain ⟨c9, c10, c11, c12⟩ := HCC.out _ hV
    obtain ⟨i0, i1, i2, i3, i4, i5', i6⟩ := KC.out _ (below_next HB5.out hV)
    go_simp
    refine hK _ _ ?_ (Below.refl _ _)
    simp only [lR]
    exact rfl
  refine FlowR.step ?_ ?_
  ·intro V3 hV
   simp only [Dep, lQ]
   repeat rintro _ ⟨_, rfl, _⟩
   intro K hK
   refine (if_pos (by rfl)).mpr ?_
   refine wp_bytes 3 _ rfl #[.int .u8 D, .int .u8 lo, .int .u8 hi] (by decide) (by decide) rfl (by simp [Value.cells]) rfl ?_
   exact hK _ _ ⟨V3, rfl, rfl, hV⟩ (below1 _ _)
  refine FlowR.step ?_ ?_
  ·intro V3 hV
   simp only [Dep, lQ]
   rintro _ ⟨_, rfl, _⟩
   rintro x85 ⟨V85, ⟨W9, rfl, rfl, hb9⟩, hb85⟩
   intro K hK
   refine (if_pos (by rfl)).mpr ?_
   refine wp_vapp _ _ rfl w2.heap.size w2.heap.size 1 [.int .u8 O] rfl (own_next KO5.out hV) ⟨W9.heap.size, 0, none⟩ 3 3 [.int .u8 D, .int .u8 lo, .int .u8 hi] rfl rfl (news_at hb85 _ rfl) (by simp [Value.oneCell']) (by decide) (by decide) (Nat.le_trans HQ5.out.size hV.size) ?_
   intro v' w' ho hb
   exact hK _ _ ho hb
  refine FlowR.last ?_
  intro V3 hV
  simp only [Dep, lQ]
  iterate 8 rintro _ ⟨_, rfl, _⟩
  rintro x85 ⟨V85, ⟨W9, rfl, rfl, hb9⟩, hb85⟩
  rintro x86 ⟨V86, ho86, hb86⟩
  intro K hK
  go_simp
  refine hK _ _ ?_
  have HB7 := Lib.hid (below_next (below_next HB0.out HB5.out) hV)
  obtain ⟨S, hcv, hss⟩ := HCV.out V3 x86 _ [O, D, lo, hi] (own_next ho86 hb86) (by simp only [List.mem_cons, List.not_mem_nil, or_false]; rintro x (rfl | rfl | rfl | rfl); all_goals first | exact HBD.out.2.1 | exact HBD.out.2.2.1 | exact HBD.out.2.2.2.2.2.2.1 | exact HBD.out.2.2.2.2.2.2.2.1) (by simp) (by simp)
  have HSS := Lib.hid hss
  clear hss
  clear hK hV ho86 qd qp qb qs hp1 hp2 hx
  go_wp2_with fail
  exact bodyPost_ret (v := .tuple #[.string S, .int .i64 0]) (by simp [results, Try.results11, go_sem]) rfl ⟨S, 0, rfl, HSS.out, HB7.out⟩
 go_upto_region 25 with (fail)
 clear hx
 obtain ⟨x, hx⟩ : ∃ x, (f == 9) = x := ⟨_, rfl⟩
 cases x
 rotate_left
 ·as_aux_lemma =>
  go_upto_region 27 with (fail)
  refine' wp_region_flowR [[], [], [], [(79, 2)], [(80, 3)], [], [(82, 5)], [(83, 6)], [(78, 1), (81, 4), (84, 7)], [(77, 0), (85, 8)], [(77, 0), (78, 1), (79, 2), (80, 3), (81, 4), (82, 5), (83, 6), (84, 7), (85, 8), (86, 9)]] (relL [eqV _, eqV _, eqV _, eqV _, eqV _, eqV _, eqV _, eqV _, slTo (.cells #[.int .u8 D, .int .u8 lo, .int .u8 hi] 5) 3 W5, fun v V => V.ownsRow w2.heap.size 5 1 v 4 [.int .u8 O, .int .u8 D, .int .u8 lo, .int .u8 hi]]) (by kernel_rfl) (by kernel_rfl) ?_
  rotate_left 8
  iterate 8
   refine FlowR.step ?_ ?_
   ·intro V3 hV
    simp only [Dep, lQ]
    repeat rintro _ ⟨_, rfl, _⟩
    intro K hK
    obtain ⟨c9, c10, c11, c12⟩ := HCC.out _ hV
    obtain ⟨i0, i1, i2, i3, i4, i5', i6⟩ := KC.out _ (below_next HB5.out hV)
    go_simp
    refine hK _ _ ?_ (Below.refl _ _)
    simp only [lR]
    exact rfl
  refine FlowR.step ?_ ?_
  ·intro V3 hV
   simp only [Dep, lQ]
   repeat rintro _ ⟨_, rfl, _⟩
   intro K hK
   refine (if_pos (by rfl)).mpr ?_
   refine wp_bytes 3 _ rfl #[.int .u8 D, .int .u8 lo, .int .u8 hi] (by decide) (by decide) rfl (by simp [Value.cells]) rfl ?_
   exact hK _ _ ⟨V3, rfl, rfl, hV⟩ (below1 _ _)
  refine FlowR.step ?_ ?_
  ·intro V3 hV
   simp only [Dep, lQ]
   rintro _ ⟨_, rfl, _⟩
   rintro x85 ⟨V85, ⟨W9, rfl, rfl, hb9⟩, hb85⟩
   intro K hK
   refine (if_pos (by rfl)).mpr ?_
   refine wp_vapp _ _ rfl w2.heap.size w2.heap.size 1 [.int .u8 O] rfl (own_next KO5.out hV) ⟨W9.heap.size, 0, none⟩ 3 3 [.int .u8 D, .int .u8 lo, .int .u8 hi] rfl rfl (news_at hb85 _ rfl) (by simp [Value.oneCell']) (by decide) (by decide) (Nat.le_trans HQ5.out.size hV.size) ?_
   intro v' w' ho hb
   exact hK _ _ ho hb
  refine FlowR.last ?_
  intro V3 hV
  simp only [Dep, lQ]
  iterate 8 rintro _ ⟨_, rfl, _⟩
  rintro x85 ⟨V85, ⟨W9, rfl, rfl, hb9⟩, hb85⟩
  rintro x86 ⟨V86, ho86, hb86⟩
  intro K hK
  go_simp
  refine hK _ _ ?_
  have HB7 := Lib.hid (below_next (below_next HB0.out HB5.out) hV)
  obtain ⟨S, hcv, hss⟩ := HCV.out V3 x86 _ [O, D, lo, hi] (own_next ho86 hb86) (by simp only [List.mem_cons, List.not_mem_nil, or_false]; rintro x (rfl | rfl | rfl | rfl); all_goals first | exact HBD.out.2.1 | exact HBD.out.2.2.1 | exact HBD.out.2.2.2.2.2.2.1 | exact HBD.out.2.2.2.2.2.2.2.1) (by simp) (by simp)
  have HSS := Lib.hid hss
  clear hss
  clear hK hV ho86 qd qp qb qs hp1 hp2 hx
  go_wp2_with fail
  exact bodyPost_ret (v := .tuple #[.string S, .int .i64 0]) (by simp [results, Try.results11, go_sem]) rfl ⟨S, 0, rfl, HSS.out, HB7.out⟩
 go_upto_region 26 with (fail)
 clear hx
 obtain ⟨x, hx⟩ : ∃ x, (f == 14) = x := ⟨_, rfl⟩
 cases x
 rotate_left
 ·as_aux_lemma =>
  go_upto_region 27 with (fail)
  refine' wp_region_flowR [[], [], [], [(79, 2)], [(80, 3)], [], [(82, 5)], [(83, 6)], [(78, 1), (81, 4), (84, 7)], [(77, 0), (85, 8)], [(77, 0), (78, 1), (79, 2), (80, 3), (81, 4), (82, 5), (83, 6), (84, 7), (85, 8), (86, 9)]] (relL [eqV _, eqV _, eqV _, eqV _, eqV _, eqV _, eqV _, eqV _, slTo (.cells #[.int .u8 D, .int .u8 lo, .int .u8 hi] 5) 3 W5, fun v V => V.ownsRow w2.heap.size 5 1 v 4 [.int .u8 O, .int .u8 D, .int .u8 lo, .int .u8 hi]]) (by kernel_rfl) (by kernel_rfl) ?_
  rotate_left 8
  iterate 8
   refine FlowR.step ?_ ?_
   ·intro V3 hV
    simp only [Dep, lQ]
    repeat rintro _ ⟨_, rfl, _⟩
    intro K hK
    obtain ⟨c9, c10, c11, c12⟩ := HCC.out _ hV
    obtain ⟨i0, i1, i2, i3, i4, i5', i6⟩ := KC.out _ (below_next HB5.out hV)
    go_simp
    refine hK _ _ ?_ (Below.refl _ _)
    simp only [lR]
    exact rfl
  refine FlowR.step ?_ ?_
  ·intro V3 hV
   simp only [Dep, lQ]
   repeat rintro _ ⟨_, rfl, _⟩
   intro K hK
   refine (if_pos (by rfl)).mpr ?_
   refine wp_bytes 3 _ rfl #[.int .u8 D, .int .u8 lo, .int .u8 hi] (by decide) (by decide) rfl (by simp [Value.cells]) rfl ?_
   exact hK _ _ ⟨V3, rfl, rfl, hV⟩ (below1 _ _)
  refine FlowR.step ?_ ?_
  ·intro V3 hV
   simp only [Dep, lQ]
   rintro _ ⟨_, rfl, _⟩
   rintro x85 ⟨V85, ⟨W9, rfl, rfl, hb9⟩, hb85⟩
   intro K hK
   refine (if_pos (by rfl)).mpr ?_
   refine wp_vapp _ _ rfl w2.heap.size w2.heap.size 1 [.int .u8 O] rfl (own_next KO5.out hV) ⟨W9.heap.size, 0, none⟩ 3 3 [.int .u8 D, .int .u8 lo, .int .u8 hi] rfl rfl (news_at hb85 _ rfl) (by simp [Value.oneCell']) (by decide) (by decide) (Nat.le_trans HQ5.out.size hV.size) ?_
   intro v' w' ho hb
   exact hK _ _ ho hb
  refine FlowR.last ?_
  intro V3 hV
  simp only [Dep, lQ]
  iterate 8 rintro _ ⟨_, rfl, _⟩
  rintro x85 ⟨V85, ⟨W9, rfl, rfl, hb9⟩, hb85⟩
  rintro x86 ⟨V86, ho86, hb86⟩
  intro K hK
  go_simp
  refine hK _ _ ?_
  have HB7 := Lib.hid (below_next (below_next HB0.out HB5.out) hV)
  obtain ⟨S, hcv, hss⟩ := HCV.out V3 x86 _ [O, D, lo, hi] (own_next ho86 hb86) (by simp only [List.mem_cons, List.not_mem_nil, or_false]; rintro x (rfl | rfl | rfl | rfl); all_goals first | exact HBD.out.2.1 | exact HBD.out.2.2.1 | exact HBD.out.2.2.2.2.2.2.1 | exact HBD.out.2.2.2.2.2.2.2.1) (by simp) (by simp)
  have HSS := Lib.hid hss
  clear hss
  clear hK hV ho86 qd qp qb qs hp1 hp2 hx
  go_wp2_with fail
  exact bodyPost_ret (v := .tuple #[.string S, .int .i64 0]) (by simp [results, Try.results11, go_sem]) rfl ⟨S, 0, rfl, HSS.out, HB7.out⟩
 go_upto_region 28 with (fail)
 clear hx
 obtain ⟨x, hx⟩ : ∃ x, (f == 7) = x := ⟨_, rfl⟩
 cases x
 rotate_left
 ·as_aux_lemma =>
  obtain ⟨c9, _, _, _⟩ := HCC.out W5 (Below.refl _ _)
  go_wp2_with (at_builtin; refine Hid.out ?_)
  refine Lib.hid ?_
  refine wpList_append_own _ rfl _ _ 49 rfl w2.heap.size 5 i5 (.int .u8 0) 1 1 Try.underlying49 KN.out.1 KN.out.2.1 KN.out.2.2.1 KN.out.2.2.2 rfl (by decide) _ _ _ rfl (own_next KO5.out (below1 W5 _)) _ _ _ ([P, lo].map (Value.int .u8)) rfl (by simp) (news_at (Below.refl _ _) _ rfl) (one_bytes _) (by decide) (by decide) (Nat.le_trans HQ5.out.size (below1 W5 _).size) ?_
  intro v7 w7 hown7 hg7 _
  have HB7 := Lib.hid (below_next (below_next HB0.out HB2.out) (below_grown (below_alloc HQ5.out (Obj.cells #[.int .u8 P, .int .u8 lo] 5)) (below_alloc HQ5.out (Obj.cells #[.int .u8 P, .int .u8 lo] 5)).size hg7 (fun q hq => ((own_next KO5.out (below1 W5 (Obj.cells #[.int .u8 P, .int .u8 lo] 5))).lt q hq).1)))
  obtain ⟨S, hcv, hss⟩ := HCV.out w7 v7 _ [O, P, lo] hown7 (by simp only [List.mem_cons, List.not_mem_nil, or_false]; rintro x (rfl | rfl | rfl); all_goals first | exact HBD.out.2.1 | exact HBD.out.2.2.2.1 | exact HBD.out.2.2.2.2.2.2.1) (by simp) (by simp)
  have HSS := Lib.hid hss
  clear hss
  go_wp2_with fail
  exact bodyPost_ret (v := .tuple #[.string S, .int .i64 0]) (by simp [results, Try.results11, go_sem]) rfl ⟨S, 0, rfl, HSS.out, HB7.out⟩
 go_upto_region 30 with (fail)
 clear hx
 obtain ⟨x, hx⟩ : ∃ x, (f == 8) = x := ⟨_, rfl⟩
 cases x
 rotate_left
 ·as_aux_lemma =>
  go_upto_region 31 with (fail)
  refine' wp_region_flowR [[], [], [], [(100, 2)], [(101, 3)], [], [(103, 5)], [(104, 6)], [(99, 1), (102, 4), (105, 7)], [(98, 0), (106, 8)], [(98, 0), (99, 1), (100, 2), (101, 3), (102, 4), (103, 5), (104, 6), (105, 7), (106, 8), (107, 9)]] (relL [eqV _, eqV _, eqV _, eqV _, eqV _, eqV _, eqV _, eqV _, slTo (.cells #[.int .u8 P, .int .u8 lo, .int .u8 hi] 5) 3 W5, fun v V => V.ownsRow w2.heap.size 5 1 v 4 [.int .u8 O, .int .u8 P, .int .u8 lo, .int .u8 hi]]) (by kernel_rfl) (by kernel_rfl) ?_
  rotate_left 8
  iterate 8
   refine FlowR.step ?_ ?_
   ·intro V3 hV
    simp only [Dep, lQ]
    repeat rintro _ ⟨_, rfl, _⟩
    intro K hK
    obtain ⟨c9, c10, c11, c12⟩ := HCC.out _ hV
    obtain ⟨i0, i1, i2, i3, i4, i5', i6⟩ := KC.out _ (below_next HB5.out hV)
    go_simp
    refine hK _ _ ?_ (Below.refl _ _)
    simp only [lR]
    exact rfl
  refine FlowR.step ?_ ?_
  ·intro V3 hV
   simp only [Dep, lQ]
   repeat rintro _ ⟨_, rfl, _⟩
   intro K hK
   refine (if_pos (by rfl)).mpr ?_
   refine wp_bytes 3 _ rfl #[.int .u8 P, .int .u8 lo, .int .u8 hi] (by decide) (by decide) rfl (by simp [Value.cells]) rfl ?_
   exact hK _ _ ⟨V3, rfl, rfl, hV⟩ (below1 _ _)
  refine FlowR.step ?_ ?_
  ·intro V3 hV
   simp only [Dep, lQ]
   rintro _ ⟨_, rfl, _⟩
   rintro x85 ⟨V85, ⟨W9, rfl, rfl, hb9⟩, hb85⟩
   intro K hK
   refine (if_pos (by rfl)).mpr ?_
   refine wp_vapp _ _ rfl w2.heap.size w2.heap.size 1 [.int .u8 O] rfl (own_next KO5.out hV) ⟨W9.heap.size, 0, none⟩ 3 3 [.int .u8 P, .int .u8 lo, .int .u8 hi] rfl rfl (news_at hb85 _ rfl) (by simp [Value.oneCell']) (by decide) (by decide) (Nat.le_trans HQ5.out.size hV.size) ?_
   intro v' w' ho hb
   exact hK _ _ ho hb
  refine FlowR.last ?_
  intro V3 hV
  simp only [Dep, lQ]
  iterate 8 rintro _ ⟨_, rfl, _⟩
  rintro x85 ⟨V85, ⟨W9, rfl, rfl, hb9⟩, hb85⟩
  rintro x86 ⟨V86, ho86, hb86⟩
  intro K hK
  go_simp
  refine hK _ _ ?_
  have HB7 := Lib.hid (below_next (below_next HB0.out HB5.out) hV)
  obtain ⟨S, hcv, hss⟩ := HCV.out V3 x86 _ [O, P, lo, hi] (own_next ho86 hb86) (by simp only [List.mem_cons, List.not_mem_nil, or_false]; rintro x (rfl | rfl | rfl | rfl); all_goals first | exact HBD.out.2.1 | exact HBD.out.2.2.2.1 | exact HBD.out.2.2.2.2.2.2.1 | exact HBD.out.2.2.2.2.2.2.2.1) (by simp) (by simp)
  have HSS := Lib.hid hss
  clear hss
  clear hK hV ho86 qd qp qb qs hp1 hp2 hx
  go_wp2_with fail
  exact bodyPost_ret (v := .tuple #[.string S, .int .i64 0]) (by simp [results, Try.results11, go_sem]) rfl ⟨S, 0, rfl, HSS.out, HB7.out⟩
 go_upto_region 32 with (fail)
 clear hx
 obtain ⟨x, hx⟩ : ∃ x, (f == 11) = x := ⟨_, rfl⟩
 cases x
 rotate_left
 ·as_aux_lemma =>
  go_upto_region 33 with (fail)
  refine' wp_region_flowR [[], [], [(111, 1)], [(112, 2)], [], [(114, 4)], [(115, 5)], [(113, 3), (116, 6)], [(110, 0), (117, 7)], [(110, 0), (111, 1), (112, 2), (113, 3), (114, 4), (115, 5), (116, 6), (117, 7), (118, 8)]] (relL [eqV _, eqV _, eqV _, eqV _, eqV _, eqV _, eqV _, slTo (.cells #[.int .u8 lo, .int .u8 hi] 5) 2 W5, fun v V => V.ownsRow w2.heap.size 5 1 v 3 [.int .u8 O, .int .u8 lo, .int .u8 hi]]) (by kernel_rfl) (by kernel_rfl) ?_
  rotate_left 7
  iterate 7
   refine FlowR.step ?_ ?_
   ·intro V3 hV
    simp only [Dep, lQ]
    repeat rintro _ ⟨_, rfl, _⟩
    intro K hK
    obtain ⟨c9, c10, c11, c12⟩ := HCC.out _ hV
    obtain ⟨i0, i1, i2, i3, i4, i5', i6⟩ := KC.out _ (below_next HB5.out hV)
    go_simp
    refine hK _ _ ?_ (Below.refl _ _)
    simp only [lR]
    exact rfl
  refine FlowR.step ?_ ?_
  ·intro V3 hV
   simp only [Dep, lQ]
   repeat rintro _ ⟨_, rfl, _⟩
   intro K hK
   refine (if_pos (by rfl)).mpr ?_
   refine wp_bytes 2 _ rfl #[.int .u8 lo, .int .u8 hi] (by decide) (by decide) rfl (by simp [Value.cells]) rfl ?_
   exact hK _ _ ⟨V3, rfl, rfl, hV⟩ (below1 _ _)
  refine FlowR.step ?_ ?_
  ·intro V3 hV
   simp only [Dep, lQ]
   rintro _ ⟨_, rfl, _⟩
   rintro x85 ⟨V85, ⟨W9, rfl, rfl, hb9⟩, hb85⟩
   intro K hK
   refine (if_pos (by rfl)).mpr ?_
   refine wp_vapp _ _ rfl w2.heap.size w2.heap.size 1 [.int .u8 O] rfl (own_next KO5.out hV) ⟨W9.heap.size, 0, none⟩ 2 2 [.int .u8 lo, .int .u8 hi] rfl rfl (news_at hb85 _ rfl) (by simp [Value.oneCell']) (by decide) (by decide) (Nat.le_trans HQ5.out.size hV.size) ?_
   intro v' w' ho hb
   exact hK _ _ ho hb
  refine FlowR.last ?_
  intro V3 hV
  simp only [Dep, lQ]
  iterate 7 rintro _ ⟨_, rfl, _⟩
  rintro x85 ⟨V85, ⟨W9, rfl, rfl, hb9⟩, hb85⟩
  rintro x86 ⟨V86, ho86, hb86⟩
  intro K hK
  go_simp
  refine hK _ _ ?_
  have HB7 := Lib.hid (below_next (below_next HB0.out HB5.out) hV)
  obtain ⟨S, hcv, hss⟩ := HCV.out V3 x86 _ [O, lo, hi] (own_next ho86 hb86) (by simp only [List.mem_cons, List.not_mem_nil, or_false]; rintro x (rfl | rfl | rfl); all_goals first | exact HBD.out.2.1 | exact HBD.out.2.2.2.2.2.2.1 | exact HBD.out.2.2.2.2.2.2.2.1) (by simp) (by simp)
  have HSS := Lib.hid hss
  clear hss
  clear hK hV ho86 qd qp qb qs hp1 hp2 hx
  go_wp2_with fail
  exact bodyPost_ret (v := .tuple #[.string S, .int .i64 0]) (by simp [results, Try.results11, go_sem]) rfl ⟨S, 0, rfl, HSS.out, HB7.out⟩
 go_upto_region 34 with (fail)
 clear hx
 obtain ⟨x, hx⟩ : ∃ x, (f == 12) = x := ⟨_, rfl⟩
 cases x
 rotate_left
 ·as_aux_lemma =>
  go_upto_region 35 with (fail)
  refine' wp_region_flowR [[], [], [(122, 1)], [(123, 2)], [], [(125, 4)], [(126, 5)], [], [(128, 7)], [(129, 8)], [(124, 3), (127, 6), (130, 9)], [(121, 0), (131, 10)], [(121, 0), (122, 1), (123, 2), (124, 3), (125, 4), (126, 5), (127, 6), (128, 7), (129, 8), (130, 9), (131, 10), (132, 11)]] (relL [eqV _, eqV _, eqV _, eqV _, eqV _, eqV _, eqV _, eqV _, eqV _, eqV _, slTo (.cells #[.int .u8 BK, .int .u8 lo, .int .u8 hi] 5) 3 W5, fun v V => V.ownsRow w2.heap.size 5 1 v 4 [.int .u8 O, .int .u8 BK, .int .u8 lo, .int .u8 hi]]) (by kernel_rfl) (by kernel_rfl) ?_
  rotate_left 10
  iterate 10
   refine FlowR.step ?_ ?_
   ·intro V3 hV
    simp only [Dep, lQ]
    repeat rintro _ ⟨_, rfl, _⟩
    intro K hK
    obtain ⟨c9, c10, c11, c12⟩ := HCC.out _ hV
    obtain ⟨i0, i1, i2, i3, i4, i5', i6⟩ := KC.out _ (below_next HB5.out hV)
    go_simp
    refine hK _ _ ?_ (Below.refl _ _)
    simp only [lR]
    exact rfl
  refine FlowR.step ?_ ?_
  ·intro V3 hV
   simp only [Dep, lQ]
   repeat rintro _ ⟨_, rfl, _⟩
   intro K hK
   refine (if_pos (by rfl)).mpr ?_
   refine wp_bytes 3 _ rfl #[.int .u8 BK, .int .u8 lo, .int .u8 hi] (by decide) (by decide) rfl (by simp [Value.cells]) rfl ?_
   exact hK _ _ ⟨V3, rfl, rfl, hV⟩ (below1 _ _)
  refine FlowR.step ?_ ?_
  ·intro V3 hV
   simp only [Dep, lQ]
   rintro _ ⟨_, rfl, _⟩
   rintro x85 ⟨V85, ⟨W9, rfl, rfl, hb9⟩, hb85⟩
   intro K hK
   refine (if_pos (by rfl)).mpr ?_
   refine wp_vapp _ _ rfl w2.heap.size w2.heap.size 1 [.int .u8 O] rfl (own_next KO5.out hV) ⟨W9.heap.size, 0, none⟩ 3 3 [.int .u8 BK, .int .u8 lo, .int .u8 hi] rfl rfl (news_at hb85 _ rfl) (by simp [Value.oneCell']) (by decide) (by decide) (Nat.le_trans HQ5.out.size hV.size) ?_
   intro v' w' ho hb
   exact hK _ _ ho hb
  refine FlowR.last ?_
  intro V3 hV
  simp only [Dep, lQ]
  iterate 10 rintro _ ⟨_, rfl, _⟩
  rintro x85 ⟨V85, ⟨W9, rfl, rfl, hb9⟩, hb85⟩
  rintro x86 ⟨V86, ho86, hb86⟩
  intro K hK
  go_simp
  refine hK _ _ ?_
  have HB7 := Lib.hid (below_next (below_next HB0.out HB5.out) hV)
  obtain ⟨S, hcv, hss⟩ := HCV.out V3 x86 _ [O, BK, lo, hi] (own_next ho86 hb86) (by simp only [List.mem_cons, List.not_mem_nil, or_false]; rintro x (rfl | rfl | rfl | rfl); all_goals first | exact HBD.out.2.1 | exact HBD.out.2.2.2.2.1 | exact HBD.out.2.2.2.2.2.2.1 | exact HBD.out.2.2.2.2.2.2.2.1) (by simp) (by simp)
  have HSS := Lib.hid hss
  clear hss
  clear hK hV ho86 qd qp qb qs hp1 hp2 hx
  go_wp2_with fail
  exact bodyPost_ret (v := .tuple #[.string S, .int .i64 0]) (by simp [results, Try.results11, go_sem]) rfl ⟨S, 0, rfl, HSS.out, HB7.out⟩
 go_upto_region 36 with (fail)
 clear hx
 obtain ⟨x, hx⟩ : ∃ x, (f == 13) = x := ⟨_, rfl⟩
 cases x
 rotate_left
 ·as_aux_lemma =>
  go_upto_region 37 with (fail)
  refine' wp_region_flowR [[], [], [], [(137, 2)], [(138, 3)], [], [(140, 5)], [(141, 6)], [], [(143, 8)], [(144, 9)], [], [(146, 11)], [(147, 12)], [], [(149, 14)], [(150, 15)], [(136, 1), (139, 4), (142, 7), (145, 10), (148, 13), (151, 16)], [(135, 0), (152, 17)], [(135, 0), (136, 1), (137, 2), (138, 3), (139, 4), (140, 5), (141, 6), (142, 7), (143, 8), (144, 9), (145, 10), (146, 11), (147, 12), (148, 13), (149, 14), (150, 15), (151, 16), (152, 17), (153, 18)]] (relL [eqV _, eqV _, eqV _, eqV _, eqV _, eqV _, eqV _, eqV _, eqV _, eqV _, eqV _, eqV _, eqV _, eqV _, eqV _, eqV _, eqV _, slTo (.cells #[.int .u8 D, .int .u8 BK, .int .u8 lo, .int .u8 hi, .int .u8 al, .int .u8 ah] 5) 6 W5, fun v V => V.ownsRow w2.heap.size 5 1 v 7 [.int .u8 O, .int .u8 D, .int .u8 BK, .int .u8 lo, .int .u8 hi, .int .u8 al, .int .u8 ah]]) (by kernel_rfl) (by kernel_rfl) ?_
  rotate_left 17
  iterate 17
   refine FlowR.step ?_ ?_
   ·intro V3 hV
    simp only [Dep, lQ]
    repeat rintro _ ⟨_, rfl, _⟩
    intro K hK
    obtain ⟨c9, c10, c11, c12⟩ := HCC.out _ hV
    obtain ⟨i0, i1, i2, i3, i4, i5', i6⟩ := KC.out _ (below_next HB5.out hV)
    go_simp
    refine hK _ _ ?_ (Below.refl _ _)
    simp only [lR]
    exact rfl
  refine FlowR.step ?_ ?_
  ·intro V3 hV
   simp only [Dep, lQ]
   repeat rintro _ ⟨_, rfl, _⟩
   intro K hK
   refine (if_pos (by rfl)).mpr ?_
   refine wp_bytes 6 _ rfl #[.int .u8 D, .int .u8 BK, .int .u8 lo, .int .u8 hi, .int .u8 al, .int .u8 ah] (by decide) (by decide) rfl (by simp [Value.cells]) rfl ?_
   exact hK _ _ ⟨V3, rfl, rfl, hV⟩ (below1 _ _)
  refine FlowR.step ?_ ?_
  ·intro V3 hV
   simp only [Dep, lQ]
   rintro _ ⟨_, rfl, _⟩
   rintro x85 ⟨V85, ⟨W9, rfl, rfl, hb9⟩, hb85⟩
   intro K hK
   refine (if_pos (by rfl)).mpr ?_
   refine wp_vapp _ _ rfl w2.heap.size w2.heap.size 1 [.int .u8 O] rfl (own_next KO5.out hV) ⟨W9.heap.size, 0, none⟩ 6 6 [.int .u8 D, .int .u8 BK, .int .u8 lo, .int .u8 hi, .int .u8 al, .int .u8 ah] rfl rfl (news_at hb85 _ rfl) (by simp [Value.oneCell']) (by decide) (by decide) (Nat.le_trans HQ5.out.size hV.size) ?_
   intro v' w' ho hb
   exact hK _ _ ho hb
  refine FlowR.last ?_
  intro V3 hV
  simp only [Dep, lQ]
  iterate 17 rintro _ ⟨_, rfl, _⟩
  rintro x85 ⟨V85, ⟨W9, rfl, rfl, hb9⟩, hb85⟩
  rintro x86 ⟨V86, ho86, hb86⟩
  intro K hK
  go_simp
  refine hK _ _ ?_
  have HB7 := Lib.hid (below_next (below_next HB0.out HB5.out) hV)
  obtain ⟨S, hcv, hss⟩ := HCV.out V3 x86 _ [O, D, BK, lo, hi, al, ah] (own_next ho86 hb86) (by simp only [List.mem_cons, List.not_mem_nil, or_false]; rintro x (rfl | rfl | rfl | rfl | rfl | rfl | rfl); all_goals first | exact HBD.out.2.1 | exact HBD.out.2.2.1 | exact HBD.out.2.2.2.2.1 | exact HBD.out.2.2.2.2.2.2.1 | exact HBD.out.2.2.2.2.2.2.2.1 | exact HBD.out.2.2.2.2.2.2.2.2.1 | exact HBD.out.2.2.2.2.2.2.2.2.2) (by simp) (by simp)
  have HSS := Lib.hid hss
  clear hss
  clear hK hV ho86 qd qp qb qs hp1 hp2 hx
  go_wp2_with fail
  exact bodyPost_ret (v := .tuple #[.string S, .int .i64 0]) (by simp [results, Try.results11, go_sem]) rfl ⟨S, 0, rfl, HSS.out, HB7.out⟩
 go_upto_region 38 with (fail)
 clear hx
 obtain ⟨x, hx⟩ : ∃ x, (f == 16) = x := ⟨_, rfl⟩
 cases x
 rotate_left
 ·as_aux_lemma =>
  go_upto_region 39 with (fail)
  refine' wp_region_flowR [[], [], [], [(158, 2)], [(159, 3)], [], [(161, 5)], [(162, 6)], [], [(164, 8)], [(165, 9)], [(157, 1), (160, 4), (163, 7), (166, 10)], [(156, 0), (167, 11)], [(156, 0), (157, 1), (158, 2), (159, 3), (160, 4), (161, 5), (162, 6), (163, 7), (164, 8), (165, 9), (166, 10), (167, 11), (168, 12)]] (relL [eqV _, eqV _, eqV _, eqV _, eqV _, eqV _, eqV _, eqV _, eqV _, eqV _, eqV _, slTo (.cells #[.int .u8 P, .int .u8 BK, .int .u8 lo, .int .u8 hi] 5) 4 W5, fun v V => V.ownsRow w2.heap.size 5 1 v 5 [.int .u8 O, .int .u8 P, .int .u8 BK, .int .u8 lo, .int .u8 hi]]) (by kernel_rfl) (by kernel_rfl) ?_
  rotate_left 11
  iterate 11
   refine FlowR.step ?_ ?_
   ·intro V3 hV
    simp only [Dep, lQ]
    repeat rintro _ ⟨_, rfl, _⟩
    intro K hK
    obtain ⟨c9, c10, c11, c12⟩ := HCC.out _ hV
    obtain ⟨i0, i1, i2, i3, i4, i5', i6⟩ := KC.out _ (below_next HB5.out hV)
    go_simp
    refine hK _ _ ?_ (Below.refl _ _)
    simp only [lR]
    exact rfl
  refine FlowR.step ?_ ?_
  ·intro V3 hV
   simp only [Dep, lQ]
   repeat rintro _ ⟨_, rfl, _⟩
   intro K hK
   refine (if_pos (by rfl)).mpr ?_
   refine wp_bytes 4 _ rfl #[.int .u8 P, .int .u8 BK, .int .u8 lo, .int .u8 hi] (by decide) (by decide) rfl (by simp [Value.cells]) rfl ?_
   exact hK _ _ ⟨V3, rfl, rfl, hV⟩ (below1 _ _)
  refine FlowR.step ?_ ?_
  ·intro V3 hV
   simp only [Dep, lQ]
   rintro _ ⟨_, rfl, _⟩
   rintro x85 ⟨V85, ⟨W9, rfl, rfl, hb9⟩, hb85⟩
   intro K hK
   refine (if_pos (by rfl)).mpr ?_
   refine wp_vapp _ _ rfl w2.heap.size w2.heap.size 1 [.int .u8 O] rfl (own_next KO5.out hV) ⟨W9.heap.size, 0, none⟩ 4 4 [.int .u8 P, .int .u8 BK, .int .u8 lo, .int .u8 hi] rfl rfl (news_at hb85 _ rfl) (by simp [Value.oneCell']) (by decide) (by decide) (Nat.le_trans HQ5.out.size hV.size) ?_
   intro v' w' ho hb
   exact hK _ _ ho hb
  refine FlowR.last ?_
  intro V3 hV
  simp only [Dep, lQ]
  iterate 11 rintro _ ⟨_, rfl, _⟩
  rintro x85 ⟨V85, ⟨W9, rfl, rfl, hb9⟩, hb85⟩
  rintro x86 ⟨V86, ho86, hb86⟩
  intro K hK
  go_simp
  refine hK _ _ ?_
  have HB7 := Lib.hid (below_next (below_next HB0.out HB5.out) hV)
  obtain ⟨S, hcv, hss⟩ := HCV.out V3 x86 _ [O, P, BK, lo, hi] (own_next ho86 hb86) (by simp only [List.mem_cons, List.not_mem_nil, or_false]; rintro x (rfl | rfl | rfl | rfl | rfl); all_goals first | exact HBD.out.2.1 | exact HBD.out.2.2.2.1 | exact HBD.out.2.2.2.2.1 | exact HBD.out.2.2.2.2.2.2.1 | exact HBD.out.2.2.2.2.2.2.2.1) (by simp) (by simp)
  have HSS := Lib.hid hss
  clear hss
  clear hK hV ho86 qd qp qb qs hp1 hp2 hx
  go_wp2_with fail
  exact bodyPost_ret (v := .tuple #[.string S, .int .i64 0]) (by simp [results, Try.results11, go_sem]) rfl ⟨S, 0, rfl, HSS.out, HB7.out⟩
 go_upto_region 40 with (fail)
 clear hx
 obtain ⟨x, hx⟩ : ∃ x, (f == 17) = x := ⟨_, rfl⟩
 cases x
 rotate_left
 ·as_aux_lemma =>
  go_upto_region 41 with (fail)
  refine' wp_region_flowR [[], [], [(172, 1)], [(173, 2)], [], [(175, 4)], [(176, 5)], [], [(178, 7)], [(179, 8)], [], [(181, 10)], [(182, 11)], [], [(184, 13)], [(185, 14)], [(174, 3), (177, 6), (180, 9), (183, 12), (186, 15)], [(171, 0), (187, 16)], [(171, 0), (172, 1), (173, 2), (174, 3), (175, 4), (176, 5), (177, 6), (178, 7), (179, 8), (180, 9), (181, 10), (182, 11), (183, 12), (184, 13), (185, 14), (186, 15), (187, 16), (188, 17)]] (relL [eqV _, eqV _, eqV _, eqV _, eqV _, eqV _, eqV _, eqV _, eqV _, eqV _, eqV _, eqV _, eqV _, eqV _, eqV _, eqV _, slTo (.cells #[.int .u8 S8, .int .u8 lo, .int .u8 hi, .int .u8 al, .int .u8 ah] 5) 5 W5, fun v V => V.ownsRow w2.heap.size 5 1 v 6 [.int .u8 O, .int .u8 S8, .int .u8 lo, .int .u8 hi, .int .u8 al, .int .u8 ah]]) (by kernel_rfl) (by kernel_rfl) ?_
  rotate_left 16
  iterate 16
   refine FlowR.step ?_ ?_
   ·intro V3 hV
    simp only [Dep, lQ]
    repeat rintro _ ⟨_, rfl, _⟩
    intro K hK
    obtain ⟨c9, c10, c11, c12⟩ := HCC.out _ hV
    obtain ⟨i0, i1, i2, i3, i4, i5', i6⟩ := KC.out _ (below_next HB5.out hV)
    go_simp
    refine hK _ _ ?_ (Below.refl _ _)
    simp only [lR]
    exact rfl
  refine FlowR.step ?_ ?_
  ·intro V3 hV
   simp only [Dep, lQ]
   repeat rintro _ ⟨_, rfl, _⟩
   intro K hK
   refine (if_pos (by rfl)).mpr ?_
   refine wp_bytes 5 _ rfl #[.int .u8 S8, .int .u8 lo, .int .u8 hi, .int .u8 al, .int .u8 ah] (by decide) (by decide) rfl (by simp [Value.cells]) rfl ?_
   exact hK _ _ ⟨V3, rfl, rfl, hV⟩ (below1 _ _)
  refine FlowR.step ?_ ?_
  ·intro V3 hV
   simp only [Dep, lQ]
   rintro _ ⟨_, rfl, _⟩
   rintro x85 ⟨V85, ⟨W9, rfl, rfl, hb9⟩, hb85⟩
   intro K hK
   refine (if_pos (by rfl)).mpr ?_
   refine wp_vapp _ _ rfl w2.heap.size w2.heap.size 1 [.int .u8 O] rfl (own_next KO5.out hV) ⟨W9.heap.size, 0, none⟩ 5 5 [.int .u8 S8, .int .u8 lo, .int .u8 hi, .int .u8 al, .int .u8 ah] rfl rfl (news_at hb85 _ rfl) (by simp [Value.oneCell']) (by decide) (by decide) (Nat.le_trans HQ5.out.size hV.size) ?_
   intro v' w' ho hb
   exact hK _ _ ho hb
  refine FlowR.last ?_
  intro V3 hV
  simp only [Dep, lQ]
  iterate 16 rintro _ ⟨_, rfl, _⟩
  rintro x85 ⟨V85, ⟨W9, rfl, rfl, hb9⟩, hb85⟩
  rintro x86 ⟨V86, ho86, hb86⟩
  intro K hK
  go_simp
  refine hK _ _ ?_
  have HB7 := Lib.hid (below_next (below_next HB0.out HB5.out) hV)
  obtain ⟨S, hcv, hss⟩ := HCV.out V3 x86 _ [O, S8, lo, hi, al, ah] (own_next ho86 hb86) (by simp only [List.mem_cons, List.not_mem_nil, or_false]; rintro x (rfl | rfl | rfl | rfl | rfl | rfl); all_goals first | exact HBD.out.2.1 | exact HBD.out.2.2.2.2.2.1 | exact HBD.out.2.2.2.2.2.2.1 | exact HBD.out.2.2.2.2.2.2.2.1 | exact HBD.out.2.2.2.2.2.2.2.2.1 | exact HBD.out.2.2.2.2.2.2.2.2.2) (by simp) (by simp)
  have HSS := Lib.hid hss
  clear hss
  clear hK hV ho86 qd qp qb qs hp1 hp2 hx
  go_wp2_with fail
  exact bodyPost_ret (v := .tuple #[.string S, .int .i64 0]) (by simp [results, Try.results11, go_sem]) rfl ⟨S, 0, rfl, HSS.out, HB7.out⟩
 have HB7 := Lib.hid (below_next HB0.out HB5.out)
 obtain ⟨S, hcv, hss⟩ := HCV.out W5 (.slice (some ⟨w2.heap.size, 0, none⟩) 1 1) _ [O] KO5.out (fun x hx => by obtain rfl := List.mem_singleton.1 hx; exact HBD.out.2.1) (by simp) (by simp)
 have HSS := Lib.hid hss
 clear hss
 go_wp2_with fail
 exact bodyPost_ret (v := .tuple #[.string S, .int .i64 0]) (by simp [results, Try.results11, go_sem]) rfl ⟨S, 0, rfl, HSS.out, HB7.out⟩
end Go.Proofs.Ytieaicdihingkaa
