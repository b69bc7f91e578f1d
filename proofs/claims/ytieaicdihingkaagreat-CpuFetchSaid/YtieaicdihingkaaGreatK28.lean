/- Start: the state in which an image starts. -/
import Derived.Test.YtieaicdihingkaaGreatK26
import Derived.Laws.StructEq
namespace Go.Proofs.YtieaicdihingkaaGreat
set_option linter.unusedVariables false
set_option linter.unusedSimpArgs false
open Go.RowKit
structure ImgIn (w : World) (E : Env) : Prop where
 strs : StrsLow w.heap.size w E.pb E.banks
 banks : E.banks.length ≤ maxLen
 entry : OkU16 E.entry
 vector : OkU16 E.vector
theorem ImgIn.next {w w' : World} {E : Env} (h : ImgIn w E) (hb : Below w.heap.size w w') : ImgIn w' E :=
 ⟨fun k s hs => by
  obtain ⟨B, e, hB, hc⟩ := h.strs.keeps (Keeps.of_below hb) k s hs
  exact ⟨B, e, Nat.lt_of_lt_of_le hB hb.size, hc⟩, h.banks, h.entry, h.vector⟩
def noTape (E : Env) : Env := { E with pin := none, cin := 0, tin := [], pirq := none, cirq := 0, tirq := [] }
def preM (entry : Int) : Mach := { startM entry with sp := 0, st := [] }
theorem norm_start (entry : Int) : normM (preM entry) ⟨#[]⟩ [0, 65535] = startM entry := by
 unfold normM preM startM
 have h : (fun j => byteI ⟨#[]⟩ j) = fun _ => (0 : Int) := by
  funext j
  exact byteI_zero _ _ (Nat.zero_le _)
 rw [h]
 rfl
theorem ok16_0 : OkU16 0 := ⟨by decide, by decide⟩
theorem ok16_2 : OkU16 2 := ⟨by decide, by decide⟩
theorem ok64_0 : OkI64 0 := ⟨by decide, by decide⟩
theorem startM_ok {entry : Int} (h : OkU16 entry) : (startM entry).Ok := by
 refine ⟨fun k => ok16_0, h, ok16_2, ok16_0, ok16_0, ok64_0, ok64_0, ok64_0, ok64_0, fun j => ⟨Int.le_refl 0, (by decide : (0 : Int) < 256)⟩, ?_, (by decide : 2 ≤ 4096), (by decide : 0 ≤ 1000000000000), ?_⟩
 ·intro x hx
  simp only [startM, List.mem_cons, List.not_mem_nil, or_false] at hx
  rcases hx with rfl | rfl <;> exact ⟨by decide, by decide⟩
 ·intro e he; cases he
theorem start_in {w : World} {E : Env} (h : ImgIn w E) {g : Nat} (hg : w.heap[g]? = some (.cells #[.int .u16 0, .int .u16 65535] 22 (0, 0))) : NormIn w (noTape E) (preM E.entry) ⟨#[]⟩ [0, 65535] (some ⟨g, 0, none⟩) none := by
 refine ⟨h.strs, fun k n hk => (by cases hk), fun k n hk => (by cases hk), .inr ⟨g, rfl, (Array.getElem?_eq_some_iff.1 hg).1, fun j u hu => ?_⟩, .inl rfl, by rw [norm_start]; exact startM_ok h.entry, ok16_0, h.banks, h.entry, h.vector, Nat.zero_le _, Nat.zero_le _, fun x hx => (by cases hx), fun x hx => (by cases hx), by decide, by decide⟩
 rw [Lib.cell_of_heap hg j]
 match j with
 | 0 => simpa using hu
 | 1 => simpa using hu
 | j + 2 => simp at hu
def StartPost (w : World) (entry : Int) (e : Ending) (w' : World) : Prop := ∃ C : Array Value, e = .returned (.agg C) ∧ Snapped w (startM entry) (ramS fun _ => 0) (.agg C) w' ∧ Below w.heap.size w w'
set_option maxRecDepth 20000 in
set_option maxHeartbeats 8000000 in
theorem Start_any {w : World} {E : Env} (h : ImgIn w E) : Calls Tryz.prog 12 #[.agg #[.slice E.pb E.banks.length E.cb, .int .u16 E.entry, .int .u16 E.vector, .slice E.pd E.nd E.cd, .slice E.pr E.nr E.cr]] w (StartPost w E.entry) := by
 have HB0 := Lib.hid (below_alloc (below1 w (Obj.cells #[.slice E.pb E.banks.length E.cb, .int .u16 E.entry, .int .u16 E.vector, .slice E.pd E.nd E.cd, .slice E.pr E.nr E.cr] 29)) (Obj.cells #[.int .u16 0, .int .u16 0, .int .u16 0, .int .u16 0, .int .u16 0, .int .u16 0, .int .u16 0, .int .u16 0, .int .u16 0, .int .u16 0, .int .u16 0, .int .u16 0, .int .i64 0, .int .i64 0, .int .i64 0, .int .i64 0, .string ⟨#[]⟩, .slice none 0 0, .slice none 0 0] 36))
 have HI0 : Hid (((w.alloc (Obj.cells #[.slice E.pb E.banks.length E.cb, .int .u16 E.entry, .int .u16 E.vector, .slice E.pd E.nd E.cd, .slice E.pr E.nr E.cr] 29)).alloc (Obj.cells #[.int .u16 0, .int .u16 0, .int .u16 0, .int .u16 0, .int .u16 0, .int .u16 0, .int .u16 0, .int .u16 0, .int .u16 0, .int .u16 0, .int .u16 0, .int .u16 0, .int .i64 0, .int .i64 0, .int .i64 0, .int .i64 0, .string ⟨#[]⟩, .slice none 0 0, .slice none 0 0] 36)).heap[w.heap.size]? = some (.cells #[.slice E.pb E.banks.length E.cb, .int .u16 E.entry, .int .u16 E.vector, .slice E.pd E.nd E.cd, .slice E.pr E.nr E.cr] 29 (0, 0))) := Lib.hid (blk_mid1 w _ _)
 have HA0 : Hid (((w.alloc (Obj.cells #[.slice E.pb E.banks.length E.cb, .int .u16 E.entry, .int .u16 E.vector, .slice E.pd E.nd E.cd, .slice E.pr E.nr E.cr] 29)).alloc (Obj.cells #[.int .u16 0, .int .u16 0, .int .u16 0, .int .u16 0, .int .u16 0, .int .u16 0, .int .u16 0, .int .u16 0, .int .u16 0, .int .u16 0, .int .u16 0, .int .u16 0, .int .i64 0, .int .i64 0, .int .i64 0, .int .i64 0, .string ⟨#[]⟩, .slice none 0 0, .slice none 0 0] 36)).heap[w.heap.size + 1]? = some (.cells #[.int .u16 0, .int .u16 0, .int .u16 0, .int .u16 0, .int .u16 0, .int .u16 0, .int .u16 0, .int .u16 0, .int .u16 0, .int .u16 0, .int .u16 0, .int .u16 0, .int .i64 0, .int .i64 0, .int .i64 0, .int .i64 0, .string ⟨#[]⟩, .slice none 0 0, .slice none 0 0] 36 (0, 0))) := Lib.hid (by
  have h9 := alloc_at (w.alloc (Obj.cells #[.slice E.pb E.banks.length E.cb, .int .u16 E.entry, .int .u16 E.vector, .slice E.pd E.nd E.cd, .slice E.pr E.nr E.cr] 29)) (Obj.cells #[.int .u16 0, .int .u16 0, .int .u16 0, .int .u16 0, .int .u16 0, .int .u16 0, .int .u16 0, .int .u16 0, .int .u16 0, .int .u16 0, .int .u16 0, .int .u16 0, .int .i64 0, .int .i64 0, .int .i64 0, .int .i64 0, .string ⟨#[]⟩, .slice none 0 0, .slice none 0 0] 36)
  rw [World.size_alloc] at h9
  exact h9)
 have HN0 := Lib.hid (h.next HB0.out)
 have HEN := Lib.hid h.entry
 clear h
 go_enter Tryz.func12, Tryz.ntmps12
 go_upto_region 1 with (fail)
 generalize (w.alloc _).alloc _ = W0 at *
 have i1 := Lib.cell_of_heap HI0.out 1
 simp at i1
 have HB1 := Lib.hid (below_alloc HB0.out (Obj.cells #[.int .u16 0, .int .u16 65535] 22))
 have HI1 := Lib.hid (start_in (HN0.out.next (below1 W0 (Obj.cells #[.int .u16 0, .int .u16 65535] 22))) (alloc_at W0 (Obj.cells #[.int .u16 0, .int .u16 65535] 22)))
 have HA1 := Lib.hid (((below1 W0 (Obj.cells #[.int .u16 0, .int .u16 65535] 22)).block _ (Array.getElem?_eq_some_iff.1 HA0.out).1).trans HA0.out)
 go_wp2_with (refine wpList_load_row 29 _ rfl rfl w.heap.size rfl #[.slice E.pb E.banks.length E.cb, .int .u16 E.entry, .int .u16 E.vector, .slice E.pd E.nd E.cd, .slice E.pr E.nr E.cr] HI0.out Tryz.underlying29 info35 ?_)
 refine (normal_any HI1.out 2 0 (by decide)).mono ?_
 rintro e w3 ⟨B, g, sv, ov, rfl, hb3, hm3⟩
 rw [norm_start] at hm3
 have HM3 := Lib.hid hm3
 have HB3 := Lib.hid (below_next HB1.out hb3)
 have HA3 := Lib.hid ((hb3.block _ (Array.getElem?_eq_some_iff.1 HA1.out).1).trans HA1.out)
 clear hm3 hb3
 go_wp2_with fail
 refine (snap_any HM3.out).mono ?_
 rintro e w4 ⟨v, rfl, ⟨p1, c1, p2, c2, rfl, hin⟩, hb4⟩
 have HSN := Lib.hid hin
 have HB4 := Lib.hid (below_next HB3.out hb4)
 have HA4 := Lib.hid ((hb4.block _ (Array.getElem?_eq_some_iff.1 HA3.out).1).trans HA3.out)
 have HLW : Hid (w.heap.size ≤ w3.heap.size) := Lib.hid HB3.out.size
 clear hin hb4
 go_wp2_with (refine wpList_store_row 36 _ _ rfl rfl (w.heap.size + 1) rfl #[.int .u16 ((startM E.entry).R 0), .int .u16 ((startM E.entry).R 1), .int .u16 ((startM E.entry).R 2), .int .u16 ((startM E.entry).R 3), .int .u16 ((startM E.entry).R 4), .int .u16 ((startM E.entry).R 5), .int .u16 ((startM E.entry).R 6), .int .u16 ((startM E.entry).R 7), .int .u16 (startM E.entry).pc, .int .u16 (startM E.entry).sp, .int .u16 (startM E.entry).fp, .int .u16 (startM E.entry).f, .int .i64 (startM E.entry).bank, .int .i64 (startM E.entry).steps, .int .i64 (startM E.entry).inputs, .int .i64 (startM E.entry).polls, .string (ramS (startM E.entry).ram), .slice p1 (startM E.entry).st.length c1, .slice p2 (startM E.entry).out.length c2] rfl HA4.out info43 rfl (by simp [Value.oneCell']) ?_; refine Hid.out ?_)
 have HA6 := Lib.hid (setRow_heap _ _ _ #[.int .u16 ((startM E.entry).R 0), .int .u16 ((startM E.entry).R 1), .int .u16 ((startM E.entry).R 2), .int .u16 ((startM E.entry).R 3), .int .u16 ((startM E.entry).R 4), .int .u16 ((startM E.entry).R 5), .int .u16 ((startM E.entry).R 6), .int .u16 ((startM E.entry).R 7), .int .u16 (startM E.entry).pc, .int .u16 (startM E.entry).sp, .int .u16 (startM E.entry).fp, .int .u16 (startM E.entry).f, .int .i64 (startM E.entry).bank, .int .i64 (startM E.entry).steps, .int .i64 (startM E.entry).inputs, .int .i64 (startM E.entry).polls, .string (ramS (startM E.entry).ram), .slice p1 (startM E.entry).st.length c1, .slice p2 (startM E.entry).out.length c2] _ _ HA4.out)
 have HS6 := Lib.hid (snap_row2 (C := #[.int .u16 ((startM E.entry).R 0), .int .u16 ((startM E.entry).R 1), .int .u16 ((startM E.entry).R 2), .int .u16 ((startM E.entry).R 3), .int .u16 ((startM E.entry).R 4), .int .u16 ((startM E.entry).R 5), .int .u16 ((startM E.entry).R 6), .int .u16 ((startM E.entry).R 7), .int .u16 (startM E.entry).pc, .int .u16 (startM E.entry).sp, .int .u16 (startM E.entry).fp, .int .u16 (startM E.entry).f, .int .i64 (startM E.entry).bank, .int .i64 (startM E.entry).steps, .int .i64 (startM E.entry).inputs, .int .i64 (startM E.entry).polls, .string (ramS (startM E.entry).ram), .slice p1 (startM E.entry).st.length c1, .slice p2 (startM E.entry).out.length c2]) (by decide) HA4.out HSN.out)
 have HW6 := Lib.hid (setRow_below (A := w.heap.size + 1) (C := #[.int .u16 ((startM E.entry).R 0), .int .u16 ((startM E.entry).R 1), .int .u16 ((startM E.entry).R 2), .int .u16 ((startM E.entry).R 3), .int .u16 ((startM E.entry).R 4), .int .u16 ((startM E.entry).R 5), .int .u16 ((startM E.entry).R 6), .int .u16 ((startM E.entry).R 7), .int .u16 (startM E.entry).pc, .int .u16 (startM E.entry).sp, .int .u16 (startM E.entry).fp, .int .u16 (startM E.entry).f, .int .i64 (startM E.entry).bank, .int .i64 (startM E.entry).steps, .int .i64 (startM E.entry).inputs, .int .i64 (startM E.entry).polls, .string (ramS (startM E.entry).ram), .slice p1 (startM E.entry).st.length c1, .slice p2 (startM E.entry).out.length c2]) HB4.out (by omega))
 generalize World.setRow _ _ _ = W6 at *
 refine Lib.hid ?_
 go_wp2_with fail
 refine bodyPost_ret (v := .agg #[.int .u16 ((startM E.entry).R 0), .int .u16 ((startM E.entry).R 1), .int .u16 ((startM E.entry).R 2), .int .u16 ((startM E.entry).R 3), .int .u16 ((startM E.entry).R 4), .int .u16 ((startM E.entry).R 5), .int .u16 ((startM E.entry).R 6), .int .u16 ((startM E.entry).R 7), .int .u16 (startM E.entry).pc, .int .u16 (startM E.entry).sp, .int .u16 (startM E.entry).fp, .int .u16 (startM E.entry).f, .int .i64 (startM E.entry).bank, .int .i64 (startM E.entry).steps, .int .i64 (startM E.entry).inputs, .int .i64 (startM E.entry).polls, .string (ramS (startM E.entry).ram), .slice p1 (startM E.entry).st.length c1, .slice p2 (startM E.entry).out.length c2]) (row_result rfl _ _ (w.heap.size + 1) _ 36 rfl HA6.out Tryz.underlying36 info43) rfl ?_
 exact ⟨_, rfl, Snapped.low ⟨p1, c1, p2, c2, rfl, HS6.out⟩ HLW.out, HW6.out⟩
end Go.Proofs.YtieaicdihingkaaGreat
namespace Go.Proofs.YtieaicdihingkaaGreat
set_option linter.unusedVariables false
set_option linter.unusedSimpArgs false
open Go.RowKit
def TwoTo (W0 : World) (v : Value) (V : World) : Prop := ∃ g2 : Nat, v = .slice (some ⟨g2, 0, none⟩) 2 2 ∧ V.heap[g2]? = some (.cells #[.int .u16 0, .int .u16 65535] 22 (0, 0)) ∧ W0.heap.size ≤ g2
def StTo (W0 : World) (entry : Int) (RS : ByteArray) (v : Value) (V : World) : Prop := ∃ g2 : Nat, v = .agg #[.int .u16 0, .int .u16 0, .int .u16 0, .int .u16 0, .int .u16 0, .int .u16 0, .int .u16 0, .int .u16 0, .int .u16 entry, .int .u16 2, .int .u16 0, .int .u16 0, .int .i64 0, .int .i64 0, .int .i64 0, .int .i64 0, .string RS, .slice (some ⟨g2, 0, none⟩) 2 2, .slice none 0 0] ∧ V.heap[g2]? = some (.cells #[.int .u16 0, .int .u16 65535] 22 (0, 0)) ∧ W0.heap.size ≤ g2
set_option maxRecDepth 20000 in
set_option maxHeartbeats 8000000 in
theorem refStart_any {w : World} {E : Env} (h : ImgIn w E) : Calls Tryz.prog 6 #[.agg #[.slice E.pb E.banks.length E.cb, .int .u16 E.entry, .int .u16 E.vector, .slice E.pd E.nd E.cd, .slice E.pr E.nr E.cr]] w (StartPost w E.entry) := by
 obtain ⟨RS, hrs⟩ : ∃ RS, ramS (fun _ => 0) = RS := ⟨_, rfl⟩
 have HRS := Lib.hid hrs
 obtain ⟨Z, hZs, hZ, hmk⟩ := make_bytes 8192 (by decide)
 have HMK : Hid (∀ W : World, (Instr.makeSlice 42 (.int .i64 8192) (.int .i64 8192)).run Tryz.prog W = .ok (.slice (some ⟨W.heap.size, 0, none⟩) 8192 8192) (W.alloc (.cells Z 5))) := Lib.hid hmk
 have HCV : Hid (∀ (W : World) (g : Nat), W.heap[g]? = some (.cells Z 5 (0, 0)) → (convert 42 9 (.slice (some ⟨g, 0, none⟩) 8192 8192)).run Tryz.prog W = .ok (.string RS) W) := Lib.hid fun W g hg => by
  rw [← hrs]
  refine ram_conv 8192 (fun _ => 0) g W fun j hj => ⟨?_, Int.le_refl 0, by decide⟩
  rw [Lib.cell_of_heap hg, ← Array.getElem?_toList]
  exact hZ j hj
 have HB0 := Lib.hid (below_alloc (below1 w (Obj.cells #[.slice E.pb E.banks.length E.cb, .int .u16 E.entry, .int .u16 E.vector, .slice E.pd E.nd E.cd, .slice E.pr E.nr E.cr] 29)) (Obj.cells #[.int .u16 0, .int .u16 0, .int .u16 0, .int .u16 0, .int .u16 0, .int .u16 0, .int .u16 0, .int .u16 0, .int .u16 0, .int .u16 0, .int .u16 0, .int .u16 0, .int .i64 0, .int .i64 0, .int .i64 0, .int .i64 0, .string ⟨#[]⟩, .slice none 0 0, .slice none 0 0] 36))
 have HI0 : Hid (((w.alloc (Obj.cells #[.slice E.pb E.banks.length E.cb, .int .u16 E.entry, .int .u16 E.vector, .slice E.pd E.nd E.cd, .slice E.pr E.nr E.cr] 29)).alloc (Obj.cells #[.int .u16 0, .int .u16 0, .int .u16 0, .int .u16 0, .int .u16 0, .int .u16 0, .int .u16 0, .int .u16 0, .int .u16 0, .int .u16 0, .int .u16 0, .int .u16 0, .int .i64 0, .int .i64 0, .int .i64 0, .int .i64 0, .string ⟨#[]⟩, .slice none 0 0, .slice none 0 0] 36)).heap[w.heap.size]? = some (.cells #[.slice E.pb E.banks.length E.cb, .int .u16 E.entry, .int .u16 E.vector, .slice E.pd E.nd E.cd, .slice E.pr E.nr E.cr] 29 (0, 0))) := Lib.hid (blk_mid1 w _ _)
 have HA0 : Hid (((w.alloc (Obj.cells #[.slice E.pb E.banks.length E.cb, .int .u16 E.entry, .int .u16 E.vector, .slice E.pd E.nd E.cd, .slice E.pr E.nr E.cr] 29)).alloc (Obj.cells #[.int .u16 0, .int .u16 0, .int .u16 0, .int .u16 0, .int .u16 0, .int .u16 0, .int .u16 0, .int .u16 0, .int .u16 0, .int .u16 0, .int .u16 0, .int .u16 0, .int .i64 0, .int .i64 0, .int .i64 0, .int .i64 0, .string ⟨#[]⟩, .slice none 0 0, .slice none 0 0] 36)).heap[w.heap.size + 1]? = some (.cells #[.int .u16 0, .int .u16 0, .int .u16 0, .int .u16 0, .int .u16 0, .int .u16 0, .int .u16 0, .int .u16 0, .int .u16 0, .int .u16 0, .int .u16 0, .int .u16 0, .int .i64 0, .int .i64 0, .int .i64 0, .int .i64 0, .string ⟨#[]⟩, .slice none 0 0, .slice none 0 0] 36 (0, 0))) := Lib.hid (by
  have h9 := alloc_at (w.alloc (Obj.cells #[.slice E.pb E.banks.length E.cb, .int .u16 E.entry, .int .u16 E.vector, .slice E.pd E.nd E.cd, .slice E.pr E.nr E.cr] 29)) (Obj.cells #[.int .u16 0, .int .u16 0, .int .u16 0, .int .u16 0, .int .u16 0, .int .u16 0, .int .u16 0, .int .u16 0, .int .u16 0, .int .u16 0, .int .u16 0, .int .u16 0, .int .i64 0, .int .i64 0, .int .i64 0, .int .i64 0, .string ⟨#[]⟩, .slice none 0 0, .slice none 0 0] 36)
  rw [World.size_alloc] at h9
  exact h9)
 clear h hrs hZs hZ hmk
 go_enter Tryz.func6, Tryz.ntmps6
 go_upto_region 1 with (fail)
 generalize (w.alloc _).alloc _ = W0 at *
 have HI1 : Hid (∀ W, Below W0.heap.size W0 W → W.cell? ⟨w.heap.size, 1, none⟩ = some (.int .u16 E.entry)) := Lib.hid fun W hW => Lib.cell_of_heap ((hW.block _ (Array.getElem?_eq_some_iff.1 HI0.out).1).trans HI0.out) 1
 refine' wp_region_flowR [[], [(3, 0)], [(4, 1)], [], [(6, 3)], [], [(5, 2), (7, 4), (8, 5)], [(3, 0), (4, 1), (5, 2), (6, 3), (7, 4), (8, 5), (9, 6)]] (relL [eqV _, eqV _, eqV _, RamTo W0 Z, eqV (.string RS), TwoTo W0, StTo W0 E.entry RS]) (by kernel_rfl) (by kernel_rfl) ?_
 rotate_left 3
 iterate 3
  refine FlowR.step ?_ ?_
  ·intro VV hV
   simp only [Dep, lQ]
   repeat rintro _ ⟨_, rfl, _⟩
   intro K hK
   obtain i1 := HI1.out _ hV
   go_simp
   refine hK _ _ ?_ (Below.refl _ _)
   simp only [lR]
   exact rfl
 refine FlowR.step ?_ ?_
 ·intro VV hV
  simp only [Dep, lQ]
  intro K hK
  refine (if_pos (by rfl)).mpr ?_
  refine wp_make_bytes rfl (HMK.out _) ?_
  exact hK _ _ ⟨_, rfl, alloc_at _ _, hV.size⟩ (below1 _ _)
 refine FlowR.step ?_ ?_
 ·intro VV hV
  simp only [Dep, lQ]
  rintro x6 ⟨V6, ⟨g, rfl, hg, hgl⟩, hb6⟩
  intro K hK
  obtain hcv := HCV.out _ g ((hb6.block _ (Array.getElem?_eq_some_iff.1 hg).1).trans hg)
  go_simp
  exact hK _ _ rfl (Below.refl _ _)
 refine FlowR.step ?_ ?_
 ·intro VV hV
  simp only [Dep, lQ]
  intro K hK
  go_simp
  exact hK _ _ ⟨_, rfl, alloc_at _ _, hV.size⟩ (below1 _ _)
 refine FlowR.step ?_ ?_
 ·intro VV hV
  simp only [Dep, lQ]
  rintro x5 ⟨V5, rfl, hb5⟩
  rintro x7 ⟨V7, rfl, hb7⟩
  rintro x8 ⟨V8, ⟨g2, rfl, hg2, hgl2⟩, hb8⟩
  intro K hK
  go_simp
  exact hK _ _ ⟨g2, rfl, (hb8.block _ (Array.getElem?_eq_some_iff.1 hg2).1).trans hg2, hgl2⟩ (Below.refl _ _)
 refine FlowR.last ?_
 intro VV hV
 simp only [Dep, lQ]
 rintro x3 ⟨V3, rfl, hb3⟩
 rintro x4 ⟨V4, rfl, hb4⟩
 rintro x5 ⟨V5, rfl, hb5⟩
 rintro x6 ⟨V6, ⟨g, rfl, hg, hgl⟩, hb6⟩
 rintro x7 ⟨V7, rfl, hb7⟩
 rintro x8 ⟨V8, ⟨g2, rfl, hg2, hgl2⟩, hb8⟩
 rintro x9 ⟨V9, ⟨g2, rfl, hg2, hgl2⟩, hb9⟩
 intro K hK
 have HA3 := Lib.hid ((hV.block _ (Array.getElem?_eq_some_iff.1 HA0.out).1).trans HA0.out)
 have HG3 := Lib.hid ((hb9.block _ (Array.getElem?_eq_some_iff.1 hg2).1).trans hg2)
 have HB3 := Lib.hid (below_next HB0.out hV)
 have HGL := Lib.hid (Nat.le_trans HB0.out.size hgl2)
 refine (if_pos (by rfl)).mpr ?_
 refine wp_store_row 36 _ _ rfl (w.heap.size + 1) rfl #[.int .u16 0, .int .u16 0, .int .u16 0, .int .u16 0, .int .u16 0, .int .u16 0, .int .u16 0, .int .u16 0, .int .u16 E.entry, .int .u16 2, .int .u16 0, .int .u16 0, .int .i64 0, .int .i64 0, .int .i64 0, .int .i64 0, .string RS, .slice (some ⟨g2, 0, none⟩) 2 2, .slice none 0 0] rfl HA3.out info43 rfl (by simp [Value.oneCell']) ?_
 refine hK _ _ ?_
 have HA6 := Lib.hid (setRow_heap _ _ _ #[.int .u16 0, .int .u16 0, .int .u16 0, .int .u16 0, .int .u16 0, .int .u16 0, .int .u16 0, .int .u16 0, .int .u16 E.entry, .int .u16 2, .int .u16 0, .int .u16 0, .int .i64 0, .int .i64 0, .int .i64 0, .int .i64 0, .string RS, .slice (some ⟨g2, 0, none⟩) 2 2, .slice none 0 0] _ _ HA3.out)
 have HG6 := Lib.hid ((setRow_other VV (w.heap.size + 1) g2 #[.int .u16 0, .int .u16 0, .int .u16 0, .int .u16 0, .int .u16 0, .int .u16 0, .int .u16 0, .int .u16 0, .int .u16 E.entry, .int .u16 2, .int .u16 0, .int .u16 0, .int .i64 0, .int .i64 0, .int .i64 0, .int .i64 0, .string RS, .slice (some ⟨g2, 0, none⟩) 2 2, .slice none 0 0] (fun e => by
  have h1 := HG3.out
  rw [e, HA3.out] at h1
  simp at h1)).trans HG3.out)
 have HW6 := Lib.hid (setRow_below (A := w.heap.size + 1) (C := #[.int .u16 0, .int .u16 0, .int .u16 0, .int .u16 0, .int .u16 0, .int .u16 0, .int .u16 0, .int .u16 0, .int .u16 E.entry, .int .u16 2, .int .u16 0, .int .u16 0, .int .i64 0, .int .i64 0, .int .i64 0, .int .i64 0, .string RS, .slice (some ⟨g2, 0, none⟩) 2 2, .slice none 0 0]) HB3.out (by omega))
 clear hK hV hg2 hgl2
 simp only [Act.put]
 generalize World.setRow _ _ _ = W6 at *
 go_wp2_with fail
 refine bodyPost_ret (v := .agg #[.int .u16 0, .int .u16 0, .int .u16 0, .int .u16 0, .int .u16 0, .int .u16 0, .int .u16 0, .int .u16 0, .int .u16 E.entry, .int .u16 2, .int .u16 0, .int .u16 0, .int .i64 0, .int .i64 0, .int .i64 0, .int .i64 0, .string RS, .slice (some ⟨g2, 0, none⟩) 2 2, .slice none 0 0]) (row_result rfl _ _ (w.heap.size + 1) _ 36 rfl HA6.out Tryz.underlying36 info43) rfl ?_
 refine ⟨_, rfl, ⟨some ⟨g2, 0, none⟩, 2, none, 0, by rw [HRS.out]; rfl, ⟨⟨rfl, .inr ⟨g2, 2, _, rfl, HGL.out, HG6.out, Nat.le_refl _, by decide, rfl, rfl⟩⟩, World.ownsRow_nil _ _ _ _⟩⟩, HW6.out⟩
end Go.Proofs.YtieaicdihingkaaGreat
namespace Go.Proofs.YtieaicdihingkaaGreat
set_option linter.unusedVariables false
set_option linter.unusedSimpArgs false
open Go.RowKit
theorem outC_at : ∀ (l : List (Int × Int)) (k : Nat) (a b : Int), l[k]? = some (a, b) → (outC l)[k * 2]? = some (.int .u16 a) ∧ (outC l)[k * 2 + 1]? = some (.int .u16 b)
 | [], k, a, b, h => by simp at h
 | x :: l, 0, a, b, h => by
  simp at h
  subst h
  exact ⟨rfl, rfl⟩
 | x :: l, k + 1, a, b, h => by
  have ih := outC_at l k a b (by simpa using h)
  have e : outC (x :: l) = .int .u16 x.1 :: .int .u16 x.2 :: outC l := rfl
  rw [e, show (k + 1) * 2 = k * 2 + 1 + 1 by omega]
  simpa using ih
theorem guard54 : Tryz.prog.eqGuardType Tryz.prog.depth 51 = false := by kernel_rfl
theorem guard46 : Tryz.prog.eqGuardType Tryz.prog.depth 39 = false := by kernel_rfl
theorem fields54 : Tryz.prog.underlying 51 = some (.struct (Tryz.prog.fieldsOf 51)) := by kernel_rfl
theorem fields46 : Tryz.prog.underlying 39 = some (.struct (Tryz.prog.fieldsOf 39)) := by kernel_rfl
theorem stood54 : Tryz.prog.stoodInHeld 51 = false := by kernel_rfl
theorem stood46 : Tryz.prog.stoodInHeld 39 = false := by kernel_rfl
theorem neq54 (a b c d : Int) (W : World) : (binOp .neq 51 (.agg #[.int .u16 a, .int .u16 b]) (.agg #[.int .u16 c, .int .u16 d])).run Tryz.prog W = .ok (.bool (!(a == c && b == d))) W := by
 rw [run_neq_struct, run_equalIn_agg W 9999 51 _ _ fields54 stood54]
 have hf : (Tryz.prog.fieldsOf 51).toList = (match Tryz.prog.underlying 51 with | some (.struct f) => f.toList | _ => []) := by kernel_rfl
 rw [hf, Tryz.underlying51]
 simp [Op.eqFields, go_sem]
 by_cases h1 : a = c
 ·by_cases h2 : b = d <;> simp [h1, h2]
 ·simp [h1]
theorem eql46 (a b c d : Int) (W : World) : (binOp .eql 39 (.agg #[.int .i64 a, .int .u16 b]) (.agg #[.int .i64 c, .int .u16 d])).run Tryz.prog W = .ok (.bool (a == c && b == d)) W := by
 rw [run_eql_struct, run_equalIn_agg W 9999 39 _ _ fields46 stood46]
 have hf : (Tryz.prog.fieldsOf 39).toList = (match Tryz.prog.underlying 39 with | some (.struct f) => f.toList | _ => []) := by kernel_rfl
 rw [hf, Tryz.underlying39]
 simp [Op.eqFields, go_sem]
 by_cases h1 : a = c
 ·by_cases h2 : b = d <;> simp [h1, h2]
 ·simp [h1]
def EvPost (w : World) (b : Bool) (e : Ending) (w' : World) : Prop := e = .returned (.bool b) ∧ Below w.heap.size w w'
def evEq (la lb : List (Int × Int)) : Bool := decide (la = lb)
set_option maxRecDepth 8000 in
set_option maxHeartbeats 4000000 in
theorem events_any (p p2 : Option Addr) (c c2 : Nat) (la lb : List (Int × Int)) (w : World) (h1 : SrcAt w p la.length (outC la)) (h2 : SrcAt w p2 lb.length (outC lb)) (hla : la.length ≤ 1000000000000) :
  Calls Tryz.prog 13 #[.slice p la.length c, .slice p2 lb.length c2] w (EvPost w (evEq la lb)) := by
 obtain ⟨eb, heb⟩ : ∃ eb, evEq la lb = eb := ⟨_, rfl⟩
 rw [heb]
 have HEB := Lib.hid heb
 clear heb
 have H1 := Lib.hid h1
 have H2 := Lib.hid h2
 have HL := Lib.hid hla
 clear h1 h2 hla
 by_cases hl : la.length = lb.length
 case neg =>
  have HR : Hid (evEq la lb = false) := Lib.hid (decide_eq_false (fun e => hl (congrArg List.length e)))
  have d0 : ((la.length : Int) != (lb.length : Int)) = true := by simp; omega
  have d1 : (la.length != lb.length) = true := by simpa using hl
  clear hl
  go_enter Tryz.func13, Tryz.ntmps13
  go_wp2_with fail
  exact bodyPost_ret (v := .bool false) (by simp [results, Tryz.results13, go_sem]) rfl ⟨by rw [← HEB.out, HR.out], Below.refl _ _⟩
 obtain ⟨n, hn⟩ : ∃ n, la.length = n := ⟨_, rfl⟩
 have hn2 : lb.length = n := hl.symm.trans hn
 rw [hn, hn2]
 have HN := Lib.hid hn
 have HN2 := Lib.hid hn2
 have d0 : ((n : Int) != (n : Int)) = false := by simp
 clear hl hn hn2
 go_enter Tryz.func13, Tryz.ntmps13
 go_wp2_with fail
 go_loopw [5] (fun i_ wr => ∃ k : Nat, i_ = .int .i64 (k : Int) ∧ k ≤ n ∧ Below w.heap.size w wr ∧ ∀ j : Nat, j < k → la[j]? = lb[j]?) (fun i_ _ => n - (intOf i_).toNat)
 case atStart => exact ⟨0, rfl, Nat.zero_le _, Below.refl _ _, fun j hj => by omega⟩
 case round =>
  obtain ⟨k, rfl, hk, hb, hall⟩ := hrel
  have HBW := Lib.hid hb
  have HALL := Lib.hid hall
  clear hb hall
  by_cases hlt : k < n
  ·have b0 : decide ((k : Int) < (n : Int)) = true := decide_eq_true (by omega)
   have HLT := Lib.hid hlt
   have x2 : IntKind.i64.wrap ((k : Int) + 1) = (k : Int) + 1 := IntWalk.i64_in _ (by have := HL.out; have := HN.out; omega)
   obtain ⟨⟨aa, ab⟩, ha⟩ := at_some la k (by rw [HN.out]; exact hlt)
   obtain ⟨⟨ba, bb⟩, hb⟩ := at_some lb k (by rw [HN2.out]; exact hlt)
   have HA := Lib.hid ha
   have HB := Lib.hid hb
   obtain ⟨g, rfl, hg, hc⟩ := H1.out.resolve_left (by have := HN.out; omega)
   obtain ⟨g2, rfl, hg2, hc2⟩ := H2.out.resolve_left (by have := HN2.out; omega)
   have HCA : Hid (∀ W, Below w.heap.size w W → W.cell? ⟨g, k * 2, none⟩ = some (.int .u16 aa) ∧ W.cell? ⟨g, k * 2 + 1, none⟩ = some (.int .u16 ab)) := Lib.hid fun W hW => ⟨(hW.cell (p := ⟨g, k * 2, none⟩) hg).trans (hc _ _ (outC_at la k aa ab ha).1), (hW.cell (p := ⟨g, k * 2 + 1, none⟩) hg).trans (hc _ _ (outC_at la k aa ab ha).2)⟩
   have HCB : Hid (∀ W, Below w.heap.size w W → W.cell? ⟨g2, k * 2, none⟩ = some (.int .u16 ba) ∧ W.cell? ⟨g2, k * 2 + 1, none⟩ = some (.int .u16 bb)) := Lib.hid fun W hW => ⟨(hW.cell (p := ⟨g2, k * 2, none⟩) hg2).trans (hc2 _ _ (outC_at lb k ba bb hb).1), (hW.cell (p := ⟨g2, k * 2 + 1, none⟩) hg2).trans (hc2 _ _ (outC_at lb k ba bb hb).2)⟩
   have i1 : (0 : Int) ≤ (k : Int) := by omega
   have i2 : (k : Int) < (n : Int) := by omega
   obtain ⟨nb, hnb⟩ : ∃ nb, (!(aa == ba && ab == bb)) = nb := ⟨_, rfl⟩
   have HQ : Hid (∀ W, (binOp .neq 51 (.agg #[.int .u16 aa, .int .u16 ab]) (.agg #[.int .u16 ba, .int .u16 bb])).run Tryz.prog W = .ok (.bool nb) W) := Lib.hid fun W => hnb ▸ neq54 aa ab ba bb W
   have HNB := Lib.hid hnb
   clear ha hb hc hc2 hg hg2 hk hlt hnb
   go_upto_region 6 with (fail)
   refine wp_region_flow (S := fun W => Below w.heap.size w W) (by kernel_rfl) (by kernel_rfl) (Below.drew HBW.out) ?_
   iterate 9
    apply Flow.step
    ·intro V K hS hK
     obtain ⟨a0, a1⟩ := HCA.out _ hS
     obtain ⟨b0, b1⟩ := HCB.out _ hS
     obtain hq := HQ.out
     obtain hgd := guard54
     go_simp
     exact hK _ hS
    simp only [lQ]
   refine Flow.done ?_
   intro V hS
   have HB3 := Lib.hid hS
   clear hS
   by_cases he : aa = ba ∧ ab = bb
   ·have d1 : (!(aa == ba && ab == bb)) = false := by simp [he.1, he.2]
    have HE : Hid (la[k]? = lb[k]?) := Lib.hid (by rw [HA.out, HB.out, he.1, he.2])
    obtain rfl : nb = false := HNB.out.symm.trans d1
    clear d1 he
    go_wp2_with fail
    go_roundw
    case rel => exact ⟨k + 1, by go_num, HLT.out, HB3.out, fun j hj => by
     by_cases e : j = k
     ·subst e; exact HE.out
     ·exact HALL.out j (by omega)⟩
    case measure => have := HLT.out; simp only [intOf]; omega
   ·have d1 : (!(aa == ba && ab == bb)) = true := by
     simp only [Bool.not_eq_true', Bool.and_eq_false_iff, beq_eq_false_iff_ne]
     by_cases h1 : aa = ba
     ·exact .inr (fun h2 => he ⟨h1, h2⟩)
     ·exact .inl h1
    have HR : Hid (evEq la lb = false) := Lib.hid (decide_eq_false (fun e => by
     have h1 := HA.out
     rw [e, HB.out] at h1
     simp only [Option.some.injEq, Prod.mk.injEq] at h1
     exact he ⟨h1.1.symm, h1.2.symm⟩))
    obtain rfl : nb = true := HNB.out.symm.trans d1
    clear d1 he
    go_wp2_with fail
    exact bodyPost_ret (v := .bool false) (by simp [results, Tryz.results13, go_sem]) rfl ⟨by rw [← HEB.out, HR.out], HB3.out⟩
  ·obtain rfl : k = n := by omega
   have b0 : decide ((k : Int) < (k : Int)) = false := by simp
   have HR : Hid (evEq la lb = true) := Lib.hid (decide_eq_true (List.ext_getElem? fun j => by
    by_cases h : j < k
    ·exact HALL.out j h
    ·rw [List.getElem?_eq_none (by have := HN.out; omega), List.getElem?_eq_none (by have := HN2.out; omega)]))
   clear hlt hk
   go_wp2_with fail
   exact bodyPost_ret (v := .bool true) (by simp [results, Tryz.results13, go_sem]) rfl ⟨by rw [← HEB.out, HR.out], HBW.out⟩
end Go.Proofs.YtieaicdihingkaaGreat
namespace Go.Proofs.YtieaicdihingkaaGreat
set_option linter.unusedVariables false
set_option linter.unusedSimpArgs false
open Go.RowKit
theorem byteI_extract (s : ByteArray) (o e : Nat) (h : o < e) (he : e ≤ s.size) : byteI (s.extract o e) 0 = byteI s o := by
 have h0 : 0 < (s.extract o e).size := by rw [ByteArray.size_extract]; omega
 rw [← byteI_at (s.extract o e) 0 h0, ← byteI_at s o (by omega), ByteArray.getElem_extract]
 simp
theorem codeM_in {E : Env} {m : Mach} {a b : Int} {s : ByteArray} (hb : (if 4096 ≤ a then m.bank else 0) = b) (hc : isCode b a) (hl : b < E.banks.length) (hs : bankAt E.banks b = s) (ha : 0 ≤ a) (hz : a % 4096 < s.size) : codeM E m a = some (byteI s (a % 4096).toNat) := by
 have h1 : offI E.banks b a = (b, a % 4096, true) := by
  unfold offI
  rw [if_pos ⟨hc, hl, by rw [show (E.banks[b.toNat]?).getD ⟨#[]⟩ = s from hs]; exact hz⟩]
 have h2 : codeS E m a = (s.extract (a % 4096).toNat s.size).extract 0 1 := by
  unfold codeS
  rw [hb, codeI_yes E.banks b a 1 s (by rw [h1]) (Int.le_refl 1) hs]
  congr 1
  rw [ByteArray.size_extract]
  omega
 have h3 : (codeS E m a).size = 1 := by
  rw [h2, ByteArray.size_extract, ByteArray.size_extract]
  omega
 rw [codeM_some (by omega), h2, byteI_extract _ _ _ (by decide) (by rw [ByteArray.size_extract]; omega), byteI_extract _ _ _ (by omega) (Nat.le_refl _)]
theorem byteI_page (off : Nat) (code : ByteArray) (j : Nat) (hj : j < 4096) : byteI (pageB off code) j = pageI off code j := by
 have hbd : 0 ≤ pageI off code j ∧ pageI off code j < 256 := by
  unfold pageI
  split
  ·exact byteI_bd _ _
  ·exact ⟨Int.le_refl 0, by decide⟩
 have h : (pageB off code).data.toList[j]? = some (UInt8.ofNat (pageI off code j).toNat) := by
  show (ramL (pageI off code) 4096).toArray.toList[j]? = _
  unfold ramL
  rw [List.toList_toArray, List.getElem?_map, List.getElem?_range hj]
  rfl
 unfold byteI
 rw [h]
 exact byte_one _ hbd.1 hbd.2
theorem code_page {E : Env} {m : Mach} {code : ByteArray} {a : Nat} (hE : E.banks = [pageB 0 code]) (ha : a < 4096) : codeM E m a = some (byteI code a) := by
 have h := codeM_in (E := E) (m := m) (a := a) (b := 0) (s := pageB 0 code) (if_neg (by omega)) ⟨by decide, by decide, .inl ⟨rfl, by omega⟩⟩ (by rw [hE]; show (0 : Int) < 1; decide) (by unfold bankAt; rw [hE]; rfl) (by omega) (by rw [pageB_size]; omega)
 rw [h, show ((a : Int) % 4096).toNat = a by omega, byteI_page 0 code a ha]
 unfold pageI
 rw [if_pos (Nat.zero_le _), Nat.sub_zero]
def codeL (code : ByteArray) (p n : Nat) : List Int := (List.range n).map fun k => byteI code (p + k)
theorem fetchL_page {E : Env} {m : Mach} {code : ByteArray} {p : Nat} (hE : E.banks = [pageB 0 code]) (hp : m.pc = p) : ∀ n, p + n ≤ 4096 → fetchL E m n = .ok (codeL code p n)
 | 0, _ => rfl
 | n + 1, h => by
  unfold fetchL
  rw [fetchL_page hE hp n (by omega)]
  have ha : fetchA m n = ((p + n : Nat) : Int) := by unfold fetchA; rw [hp]; omega
  have hb : fetchB E m n = .ok (byteI code (p + n)) := by
   unfold fetchB
   rw [ha, if_pos (by rw [hp]; omega), code_page hE (by omega)]
  dsimp only
  rw [hb]
  unfold codeL
  rw [List.range_succ, List.map_append]
  rfl
theorem fetch_page {E : Env} {m : Mach} {code : ByteArray} {p n : Nat} {i : InsI} (hE : E.banks = [pageB 0 code]) (hp : m.pc = p) (hn : p + n ≤ 4096) (h1 : 1 ≤ n) (hN : fetchN (byteI code p) = n) (hd : decI ⟨(bytesI (codeL code p n)).toArray⟩ = (i, 0)) : fetchM E m = .ok i := by
 unfold fetchM
 rw [if_neg (by rw [hp]; omega), fetchL_page hE hp 1 (by omega)]
 dsimp only
 rw [show (codeL code p 1).headD 0 = byteI code p from rfl, hN, fetchL_page hE hp n hn]
 dsimp only
 rw [hd]
 exact if_pos rfl
theorem step_page {E : Env} {m : Mach} {code : ByteArray} {p n : Nat} {i : InsI} (hE : E.banks = [pageB 0 code]) (hp : m.pc = p) (hn : p + n ≤ 4096) (h1 : 1 ≤ n) (hN : fetchN (byteI code p) = n) (hd : decI ⟨(bytesI (codeL code p n)).toArray⟩ = (i, 0)) :
  stepM E m = match execM E (addPc m i.size) i i.d.toNat i.s.toNat with | .error t => .error t | .ok m' => .ok { m' with steps := wrap64 (m'.steps + 1), sp := m'.st.length } := by
 unfold stepM
 rw [fetch_page hE hp hn h1 hN hd]
 rfl
theorem runM_ok {E : Env} {m m' : Mach} {k : Nat} (h : stepM E m = .ok m') : runM E (k + 1) m = runM E k m' := by
 show (match stepM E m with | .ok m' => runM E k m' | .error t => if t.1 = 0 then runM E k m else (m, t)) = _
 rw [h]
theorem runM_err {E : Env} {m : Mach} {k : Nat} {t : Int × Int} (h : stepM E m = .error t) (h0 : t.1 ≠ 0) : runM E (k + 1) m = (m, t) := by
 show (match stepM E m with | .ok m' => runM E k m' | .error t => if t.1 = 0 then runM E k m else (m, t)) = _
 rw [h]
 exact if_neg h0
def code1 : ByteArray := ⟨#[48, 1, 5, 33, 18, 2]⟩
def code2 : ByteArray := ⟨#[145, 0, 7, 1]⟩
def code3 : ByteArray := ⟨#[17, 3, 17, 3, 17, 3]⟩
def m11 : Mach := { startM 0 with pc := 3, R := setR (fun _ => 0) 1 5, steps := 1 }
def m12 : Mach := { startM 0 with pc := 5, R := setR (setR (fun _ => 0) 1 5) 1 5, f := addF 5 0 false, steps := 2 }
theorem run1 {E : Env} (hE : E.banks = [pageB 0 code1]) : runM E 100 (startM 0) = (m12, (1, 0)) := by
 have s1 : stepM E (startM 0) = .ok m11 := by
  rw [step_page (p := 0) (n := 3) (i := ⟨48, 1, 0, 5, 0, 0, 3⟩) hE rfl (by decide) (by decide) (by kernel_rfl) (by kernel_rfl)]
  kernel_rfl
 have s2 : stepM E m11 = .ok m12 := by
  rw [step_page (p := 3) (n := 2) (i := ⟨33, 1, 2, 0, 0, 0, 2⟩) hE rfl (by decide) (by decide) (by kernel_rfl) (by kernel_rfl)]
  kernel_rfl
 have s3 : stepM E m12 = .error (1, 0) := by
  rw [step_page (p := 5) (n := 1) (i := ⟨2, 0, 0, 0, 0, 0, 1⟩) hE rfl (by decide) (by decide) (by kernel_rfl) (by kernel_rfl)]
  kernel_rfl
 rw [runM_ok (k := 99) s1, runM_ok (k := 98) s2, runM_err (k := 97) s3 (by decide)]
def m21 : Mach := { startM 0 with pc := 3, out := [(7, 0)], steps := 1 }
def m22 : Mach := { startM 0 with pc := 65535, st := [], sp := 0, out := [(7, 0)], steps := 2 }
theorem run2 {E : Env} (hE : E.banks = [pageB 0 code2]) : runM E 100 (startM 0) = (m22, (6, 0)) := by
 have s1 : stepM E (startM 0) = .ok m21 := by
  rw [step_page (p := 0) (n := 3) (i := ⟨145, 0, 0, 7, 0, 0, 3⟩) hE rfl (by decide) (by decide) (by kernel_rfl) (by kernel_rfl)]
  kernel_rfl
 have s2 : stepM E m21 = .ok m22 := by
  rw [step_page (p := 3) (n := 1) (i := ⟨1, 0, 0, 0, 0, 0, 1⟩) hE rfl (by decide) (by decide) (by kernel_rfl) (by kernel_rfl)]
  kernel_rfl
 have s3 : stepM E m22 = .error (6, 0) := by
  unfold stepM fetchM
  rw [if_pos (show m22.pc = 65535 from rfl)]
 rw [runM_ok (k := 99) s1, runM_ok (k := 98) s2, runM_err (k := 97) s3 (by decide)]
def m31 : Mach := { startM 0 with pc := 2, R := setR (fun _ => 0) 3 65535, st := [0], sp := 1, steps := 1 }
def m32 : Mach := { startM 0 with pc := 4, R := setR (setR (fun _ => 0) 3 65535) 3 0, st := [], sp := 0, steps := 2 }
theorem run3 {E : Env} (hE : E.banks = [pageB 0 code3]) : runM E 100 (startM 0) = (m32, (5, 0)) := by
 have s1 : stepM E (startM 0) = .ok m31 := by
  rw [step_page (p := 0) (n := 2) (i := ⟨17, 3, 0, 0, 0, 0, 2⟩) hE rfl (by decide) (by decide) (by kernel_rfl) (by kernel_rfl)]
  kernel_rfl
 have s2 : stepM E m31 = .ok m32 := by
  rw [step_page (p := 2) (n := 2) (i := ⟨17, 3, 0, 0, 0, 0, 2⟩) hE rfl (by decide) (by decide) (by kernel_rfl) (by kernel_rfl)]
  kernel_rfl
 have s3 : stepM E m32 = .error (5, 0) := by
  rw [step_page (p := 4) (n := 2) (i := ⟨17, 3, 0, 0, 0, 0, 2⟩) hE rfl (by decide) (by decide) (by kernel_rfl) (by kernel_rfl)]
  kernel_rfl
 rw [runM_ok (k := 99) s1, runM_ok (k := 98) s2, runM_err (k := 97) s3 (by decide)]
end Go.Proofs.YtieaicdihingkaaGreat
