/- CpuSplits: the walk. -/
import Derived.Test.YtieaicdihingkaaHS
namespace Go.Proofs.Ytieaicdihingkaa
set_option linter.unusedVariables false
set_option linter.unusedSimpArgs false
open Go.RowKit
theorem blk_2nd (w : World) (a b : Obj) : ((w.alloc a).alloc b).heap[w.heap.size + 1]? = some b := by
 have h := alloc_at (w.alloc a) b
 rwa [World.size_alloc] at h
theorem wpList_load_rg {ops : Array Oper} {rest : List Oper} {o : Oper} {a : Act} {Q : Exit → Act → World → Prop} {W : World} (t : TypeId) (x : Operand) (hgd : Region.wanted o (yielded ops a.tmps) = true) (ho : o.op = .load t x) (N : Nat) (hx : a.eval x = .pointer (some ⟨N, 0, none⟩)) (C : Array Value) {e : TypeId}
    (hN : W.heap[N]? = some (.cells C e (0, 0))) {fs : Array Field} (hu : Try.prog.underlying t = some (.struct fs)) (hi : (Try.prog.info? t).map (·.size) = some C.size) (h : wpList Try.prog ops Q rest (a.put o.dst (.agg C)) W) : wpList Try.prog ops Q (o :: rest) a W := by
  refine wpList_step fun K hK => ?_
  rw [if_pos hgd]
  have hl := run_loadVar_row (P := Try.prog) W N e t C (0, 0) _ hN hu rfl hi
  unfold Oper.wp execOp
  simp only [ho, hx, Instr.loadAt, Instr.sureAddr, Sem.run_bind, Sem.run_pure, Result.andThen_ok, hl]
  exact hK _ _ h
structure KeepR (yB : Nat) (C T : Array Value) (m : Mach) (W0 : World) (vs vo : Value) (V : World) : Prop where
  y : V.heap[yB]? = some (.cells C 43 (0, 0))
  t : V.heap[yB + 1]? = some (.cells T 46 (0, 0))
  snap : SnapIn W0 V m vs vo
theorem info73 : (Try.prog.info? 73).map (·.size) = some 6 := by kernel_rfl
theorem z51_all (a b : Option Addr) (n c m d : Nat) : (#[.slice a n c, .slice b m d] : Array Value).all (·.oneCell') = true := by simp [Value.oneCell']
theorem i35_all (a b c : Option Addr) (n m k l r s : Nat) (x y : Int) : (#[.slice a n m, .int .u16 x, .int .u16 y, .slice b k l, .slice c r s] : Array Value).all (·.oneCell') = true := by simp [Value.oneCell']
/-- A setup: its image and tape as an Env, its state. -/
theorem setup_E {w w' : World} {e : Ending} (h : SetupPost w e w') : ∃ (E : Env) (m : Mach) (S : ByteArray) (l : List Int) (p1 p2 : Option Addr) (c1 c2 : Nat), e = .returned (.tuple #[.agg #[.slice E.pb E.banks.length E.cb, .int .u16 E.entry, .int .u16 E.vector, .slice E.pd E.nd E.cd, .slice E.pr E.nr E.cr], .agg (snC m S (.slice p1 l.length c1) (.slice p2 m.out.length c2)), .agg #[.slice E.pin E.tin.length E.cin, .slice E.pirq E.tirq.length E.cirq]]) ∧ EnvIn w' E ∧ StIn w' m S l p1 p2 c1 c2 ∧ m.out.length = 0 ∧ Below w.heap.size w w' := by
 obtain ⟨pb, banks, cb, vec, m, S, l, p1, p2, c1, c2, pin, cin, tin, pirq, cirq, tirq, rfl, him, hst, htp, h3⟩ := h
 have ho : m.out = [] := hst.words.out
 refine ⟨{ emptyE with pb := pb, banks := banks, cb := cb, entry := 0, vector := vec, pd := none, nd := 0, cd := 0, pr := none, nr := 0, cr := 0, pin := pin, tin := tin, cin := cin, pirq := pirq, tirq := tirq, cirq := cirq }, m, S, l, p1, p2, c1, c2, by rw [ho]; rfl, ⟨him, htp, rfl, rfl, rfl, rfl, rfl, rfl, rfl⟩, ?_, by rw [ho]; rfl, h3⟩
 obtain ⟨b, hb⟩ := hst.out
 have hw := hst.words
 have hn : (normM m S l).Ok := by
  refine ⟨hw.R, hw.pc, ?_, hw.fp, hw.f, hw.bank, hw.steps, hw.inputs, hw.polls, fun j => byteI_bd _ _, fun x hx => hst.ok x (List.mem_of_mem_take hx), ?_, ?_, ?_⟩
  ·show OkU16 ((min l.length 4096 : Nat) : Int)
   exact ⟨by omega, by omega⟩
  ·show (l.take 4096).length ≤ 4096
   rw [List.length_take]; omega
  ·show m.out.length ≤ _
   rw [ho]; decide
  ·intro x hx
   have hx : x ∈ m.out := hx
   rw [ho] at hx
   cases hx
 exact ⟨hst.st, ⟨b, by rw [ho]; exact hb⟩, hn, hw.sp, by have := hst.len; omega, by rw [hst.size]; decide⟩
/-- The setup is stored. -/
theorem law_three {w0 w3 W4 W5 W6 : World} {E : Env} {SC : Array Value} {mB : Nat} {MC : Array Value} (hb : Below w0.heap.size w0 w3) (hE : EnvIn w3 E) (hM : w3.heap[mB]? = some (.cells MC 57 (0, 0))) (hmB : w0.heap.size ≤ mB)
  (e4 : (((w3.alloc (.cells #[.slice none 0 0, .int .u16 0, .int .u16 0, .slice none 0 0, .slice none 0 0] 35)).alloc (.cells #[.int .u16 0, .int .u16 0, .int .u16 0, .int .u16 0, .int .u16 0, .int .u16 0, .int .u16 0, .int .u16 0, .int .u16 0, .int .u16 0, .int .u16 0, .int .u16 0, .int .i64 0, .int .i64 0, .int .i64 0, .int .i64 0, .string ⟨#[]⟩, .slice none 0 0, .slice none 0 0] 43)).alloc (.cells #[.slice none 0 0, .slice none 0 0] 51)).setRow w3.heap.size #[.slice E.pb E.banks.length E.cb, .int .u16 E.entry, .int .u16 E.vector, .slice E.pd E.nd E.cd, .slice E.pr E.nr E.cr] = W4)
  (e5 : W4.setRow (w3.heap.size + 1) SC = W5) (e6 : W5.setRow (w3.heap.size + 1 + 1) #[.slice E.pin E.tin.length E.cin, .slice E.pirq E.tirq.length E.cirq] = W6) :
  SpIn w0 W6 E [(w3.heap.size, #[.slice E.pb E.banks.length E.cb, .int .u16 E.entry, .int .u16 E.vector, .slice E.pd E.nd E.cd, .slice E.pr E.nr E.cr], 35), (w3.heap.size + 1, SC, 43), (w3.heap.size + 1 + 1, #[.slice E.pin E.tin.length E.cin, .slice E.pirq E.tirq.length E.cirq], 51), (mB, MC, 57)] ∧ ∀ {m : Mach} {S : ByteArray} {l : List Int} {p1 p2 : Option Addr} {c1 c2 : Nat}, StIn w3 m S l p1 p2 c1 c2 → StIn W6 m S l p1 p2 c1 c2 := by
 generalize eA : ((w3.alloc _).alloc _).alloc _ = WA at e4
 obtain ⟨g1, g2, g3, hA⟩ := three_blocks _ _ _ _ _ eA
 have hmlt := at_lt hM
 have hl : w0.heap.size ≤ w3.heap.size := hb.size
 have k2 := sr_oth8 (by omega) g2 e4
 have k3 := sr_oth8 (by omega) (sr_oth8 (by omega) g3 e4) e5
 refine ⟨⟨?_, (((hE.next hA).row g1 e4 z35_no (by decide)).row k2 e5 z43_no (by decide)).row k3 e6 z51_no (by decide), fun x hx => ?_⟩, fun hs => (((hs.next hA).row g1 e4 (by decide)).row k2 e5 (by decide)).row k3 e6 (by decide)⟩
 ·subst e6; subst e5; subst e4
  exact setRow_below (setRow_below (setRow_below (below_next hb hA) hl) (by omega)) (by omega)
 ·rcases List.mem_cons.1 hx with rfl | hx
  ·exact ⟨sr_oth8 (by omega) (sr_oth8 (by omega) (sr_blk8 g1 e4) e5) e6, hl⟩
  rcases List.mem_cons.1 hx with rfl | hx
  ·exact ⟨sr_oth8 (by omega) (sr_blk8 k2 e5) e6, by show w0.heap.size ≤ w3.heap.size + 1; omega⟩
  rcases List.mem_cons.1 hx with rfl | hx
  ·exact ⟨sr_blk8 k3 e6, by show w0.heap.size ≤ w3.heap.size + 1 + 1; omega⟩
  rcases List.mem_cons.1 hx with rfl | hx
  ·exact ⟨sr_oth8 (by omega) (sr_oth8 (by omega) (sr_oth8 (by omega) (at_next hA hM) e4) e5) e6, hmB⟩
  ·cases hx
set_option maxRecDepth 100000 in
set_option maxHeartbeats 40000000 in
theorem cpuSplits_walk (p : Option Addr) (n cap : Nat) (n0 n1 n2 n3 : Int) (pt : Option Addr) (capt : Nat) (L : List Int) (ka kb : Int) (w : World) (hp : FivesAt w.heap.size w p n) (hcap : n ≤ cap) (hl : n ≤ 9223372036854775807) (ht : RowLow w.heap.size w pt .i64 L) (hnt : L.length ≤ 9223372036854775807) (a0 : 0 ≤ ka) (a1 : ka < 256) (b0 : 0 ≤ kb) (b1 : kb < 256) :
  Calls Try.prog 8 #[.agg #[.slice p n cap, .int .i64 n0, .int .i64 n1, .int .i64 n2, .int .i64 n3, .slice pt L.length capt], .agg #[.int .u8 ka, .int .u8 kb]] w (EvPost w true) := by
 have HP := Lib.hid hp
 have HT := Lib.hid ht
 have HN := Lib.hid (And.intro hcap (And.intro hl hnt))
 obtain ⟨KA, rfl⟩ : ∃ KA : Nat, ka = (KA : Int) := ⟨ka.toNat, by omega⟩
 obtain ⟨KB, rfl⟩ : ∃ KB : Nat, kb = (KB : Int) := ⟨kb.toNat, by omega⟩
 have HK : Hid (KA < 256 ∧ KB < 256) := Lib.hid (by omega)
 have xa : IntKind.i64.wrap (KA : Int) = (KA : Int) := IntWalk.i64_in _ (by omega)
 have xb : IntKind.i64.wrap (KB : Int) = (KB : Int) := IntWalk.i64_in _ (by omega)
 have xs : IntKind.i64.wrap ((KA : Int) + (KB : Int)) = ((KA + KB : Nat) : Int) := by rw [IntWalk.i64_in _ (by omega)]; omega
 clear hp ht hcap hl hnt a0 a1 b0 b1
 go_enter Try.func8, Try.ntmps8
 go_upto_region 1 with (fail)
 generalize e0 : (w.alloc _).alloc _ = W0
 have HX0 : Hid (W0.heap[w.heap.size]? = some (.cells #[.slice p n cap, .int .i64 n0, .int .i64 n1, .int .i64 n2, .int .i64 n3, .slice pt L.length capt] 73 (0, 0))) := Lib.hid (e0 ▸ blk_mid1 w _ _)
 have HM0 : Hid (W0.heap[w.heap.size + 1]? = some (.cells #[.int .u8 (KA : Int), .int .u8 (KB : Int)] 57 (0, 0))) := Lib.hid (by
  have h9 := alloc_at (w.alloc (.cells #[.slice p n cap, .int .i64 n0, .int .i64 n1, .int .i64 n2, .int .i64 n3, .slice pt L.length capt] 73)) (.cells #[.int .u8 (KA : Int), .int .u8 (KB : Int)] 57)
  rw [World.size_alloc] at h9
  exact e0 ▸ h9)
 have HB0 : Hid (Below w.heap.size w W0) := Lib.hid (e0 ▸ below_alloc (below1 w _) _)
 clear e0
 go_wp2_with fail
 refine (sanity_any _).mono ?_
 rintro e w1 ⟨rfl, h1⟩
 have HX1 := Lib.hid (at_next h1 HX0.out)
 have HM1 := Lib.hid (at_next h1 HM0.out)
 have HB1 := Lib.hid (below_next HB0.out h1)
 clear h1 HX0 HM0 HB0
 go_wp2_with (refine wpList_load_row 73 _ rfl rfl w.heap.size rfl #[.slice p n cap, .int .i64 n0, .int .i64 n1, .int .i64 n2, .int .i64 n3, .slice pt L.length capt] HX1.out Try.underlying73 info73 ?_)
 refine (setup_some p n cap n0 n1 n2 n3 pt L.length capt L _ ((HP.out.next HB1.out).up HB1.out.size) HN.out.1 HN.out.2.1 (row_low HT.out HB1.out) rfl HN.out.2.2).mono ?_
 intro e w3 hpost
 obtain ⟨E, m, S, l, p1, p2, c1, c2, rfl, hE, hst, hout, h3⟩ := setup_E hpost
 have HM3 := Lib.hid (at_next h3 HM1.out)
 have HB3 := Lib.hid (below_next HB1.out h3)
 have HE := Lib.hid hE
 have HS := Lib.hid hst
 have HO := Lib.hid hout
 clear hE hst hout h3 HX1 HM1 HB1 HP HT HN hpost
 go_wp2_with (first | refine wpList_store_row 35 _ _ rfl rfl w3.heap.size rfl #[.slice E.pb E.banks.length E.cb, .int .u16 E.entry, .int .u16 E.vector, .slice E.pd E.nd E.cd, .slice E.pr E.nr E.cr] rfl (three_blocks w3 _ _ _ _ rfl).1 info35 rfl (i35_all _ _ _ _ _ _ _ _ _ _ _) ?_; refine Hid.out ?_)
 generalize e4 : World.setRow _ _ _ = W4
 refine Lib.hid ?_
 have h24 := sr_oth8 (by omega) (three_blocks w3 _ _ _ _ rfl).2.1 e4
 have h34 := sr_oth8 (by omega) (three_blocks w3 _ _ _ _ rfl).2.2.1 e4
 go_wp2_with (refine wpList_store_row 43 _ _ rfl rfl (w3.heap.size + 1) rfl (snC m S (.slice p1 l.length c1) (.slice p2 m.out.length c2)) rfl h24 info43 rfl (snC_one _ _ _ _ _ _ _ _) ?_; refine Hid.out ?_)
 generalize e5 : World.setRow _ _ _ = W5
 refine Lib.hid ?_
 have h35 := sr_oth8 (by omega) h34 e5
 go_wp2_with (refine wpList_store_row 51 _ _ rfl rfl (w3.heap.size + 1 + 1) rfl #[.slice E.pin E.tin.length E.cin, .slice E.pirq E.tirq.length E.cirq] rfl h35 info51 rfl (z51_all _ _ _ _ _ _) ?_; refine Hid.out ?_)
 generalize e6 : World.setRow _ _ _ = W6
 obtain ⟨hsp, hkeep⟩ := law_three (mB := w.heap.size + 1) HB3.out HE.out HM3.out (by omega) e4 e5 e6
 have HSP := Lib.hid hsp
 have HSs := Lib.hid (hkeep HS.out)
 refine Lib.hid ?_
 clear hsp hkeep h24 h34 h35 e4 e5 e6 HS HE HM3 HB3
 have y1 : W6.cell? ⟨w.heap.size + 1, 1, none⟩ = some (.int .u8 (KB : Int)) := Lib.cell_of_heap (HSP.out.blk _ (.tail _ (.tail _ (.tail _ (.head _))))).1 1
 have y0 : W6.cell? ⟨w.heap.size + 1, 0, none⟩ = some (.int .u8 (KA : Int)) := Lib.cell_of_heap (HSP.out.blk _ (.tail _ (.tail _ (.tail _ (.head _))))).1 0
 go_wp2_with (first | refine wpList_load_row 35 _ rfl rfl w3.heap.size rfl #[.slice E.pb E.banks.length E.cb, .int .u16 E.entry, .int .u16 E.vector, .slice E.pd E.nd E.cd, .slice E.pr E.nr E.cr] (HSP.out.blk _ (.head _)).1 Try.underlying35 info35 ?_ | refine wpList_load_row 51 _ rfl rfl (w3.heap.size + 1 + 1) rfl #[.slice E.pin E.tin.length E.cin, .slice E.pirq E.tirq.length E.cirq] (HSP.out.blk _ (.tail _ (.tail _ (.head _)))).1 Try.underlying51 info51 ?_ | refine wpList_load_row 43 _ rfl rfl (w3.heap.size + 1) rfl (snC m S (.slice p1 l.length c1) (.slice p2 m.out.length c2)) (HSP.out.blk _ (.tail _ (.head _))).1 Try.underlying43 info43 ?_)
 refine (Run_any (HSs.out.norm HSP.out.env) c1 c2 HSs.out.cap (KA + KB) (by have := HK.out; omega) (by have := HK.out; have := HO.out; omega)).mono ?_
 rintro e w9 ⟨C, rfl, hs, hb⟩
 obtain ⟨q1A, d1A, q2A, d2A, rfl, hin⟩ := hs.cells
 obtain ⟨XA, hX⟩ : ∃ X, runM E (KA + KB) (normM m S l) = X := ⟨_, rfl⟩
 rw [hX] at hin ⊢
 obtain ⟨hst, hid, hnz, hlen⟩ := ran_st (HSs.out.norm HSP.out.env) (by have := HK.out; have := HO.out; omega) HSs.out.size (congrArg Prod.fst hX) hin
 have HXA := Lib.hid hX
 have HIA := Lib.hid hid
 have HZA := Lib.hid hnz
 have HLA := Lib.hid hlen
 clear hX hs hid hnz hlen hin
 obtain ⟨XA, tA, vA⟩ := XA
 dsimp only at hst HIA HZA HLA ⊢
 go_wp2_with (refine wpList_store_row 43 _ _ rfl rfl w9.heap.size rfl (snC XA (ramS XA.ram) (.slice q1A XA.st.length d1A) (.slice q2A XA.out.length d2A)) rfl (blk_mid1 w9 _ _) info43 rfl (snC_one _ _ _ _ _ _ _ _) ?_; refine Hid.out ?_)
 generalize eA : World.setRow _ _ _ = W7
 refine Lib.hid ?_
 have hT := sr_oth8 (by omega) (blk_2nd w9 _ _) eA
 go_wp2_with (refine wpList_store_row 46 _ _ rfl rfl (w9.heap.size + 1) rfl #[.int .i64 tA, .int .u16 vA] rfl hT info46 rfl (by simp [Value.oneCell']) ?_; refine Hid.out ?_)
 generalize eB : World.setRow _ _ _ = W8
 refine Lib.hid ?_
 obtain ⟨hsp, hkeep⟩ := HSP.out.ran hb eA eB
 have HSPA := Lib.hid hsp
 have HSA := Lib.hid (hkeep hst)
 replace HSs := Lib.hid (hkeep (HSs.out.next hb))
 clear hT eA eB hkeep hsp hst hb HSP y1 y0
 have y0 : W8.cell? ⟨w.heap.size + 1, 0, none⟩ = some (.int .u8 (KA : Int)) := Lib.cell_of_heap (HSPA.out.blk _ (.tail _ (.tail _ (.tail _ (.tail _ (.tail _ (.head _))))))).1 0
 go_wp2_with (first | refine wpList_load_row 35 _ rfl rfl w3.heap.size rfl #[.slice E.pb E.banks.length E.cb, .int .u16 E.entry, .int .u16 E.vector, .slice E.pd E.nd E.cd, .slice E.pr E.nr E.cr] (HSPA.out.blk _ (.tail _ (.tail _ (.head _)))).1 Try.underlying35 info35 ?_ | refine wpList_load_row 51 _ rfl rfl (w3.heap.size + 1 + 1) rfl #[.slice E.pin E.tin.length E.cin, .slice E.pirq E.tirq.length E.cirq] (HSPA.out.blk _ (.tail _ (.tail _ (.tail _ (.tail _ (.head _)))))).1 Try.underlying51 info51 ?_ | refine wpList_load_row 43 _ rfl rfl (w3.heap.size + 1) rfl (snC m S (.slice p1 l.length c1) (.slice p2 m.out.length c2)) (HSPA.out.blk _ (.tail _ (.tail _ (.tail _ (.head _))))).1 Try.underlying43 info43 ?_)
 refine (Run_any (HSs.out.norm HSPA.out.env) c1 c2 HSs.out.cap KA (by have := HK.out; omega) (by have := HK.out; have := HO.out; omega)).mono ?_
 rintro e w12 ⟨C, rfl, hs, hb⟩
 obtain ⟨q1B, d1B, q2B, d2B, rfl, hin⟩ := hs.cells
 obtain ⟨XB, hX⟩ : ∃ X, runM E KA (normM m S l) = X := ⟨_, rfl⟩
 rw [hX] at hin ⊢
 obtain ⟨hst, hid, hnz, hlen⟩ := ran_st (HSs.out.norm HSPA.out.env) (by have := HK.out; have := HO.out; omega) HSs.out.size (congrArg Prod.fst hX) hin
 have HXB := Lib.hid hX
 have HIB := Lib.hid hid
 have HZB := Lib.hid hnz
 have HLB := Lib.hid hlen
 clear hX hs hid hnz hlen hin
 obtain ⟨XB, tB, vB⟩ := XB
 dsimp only at hst HIB HZB HLB ⊢
 go_wp2_with (refine wpList_store_row 43 _ _ rfl rfl w12.heap.size rfl (snC XB (ramS XB.ram) (.slice q1B XB.st.length d1B) (.slice q2B XB.out.length d2B)) rfl (blk_mid1 w12 _ _) info43 rfl (snC_one _ _ _ _ _ _ _ _) ?_; refine Hid.out ?_)
 generalize eA : World.setRow _ _ _ = WB
 refine Lib.hid ?_
 have hT := sr_oth8 (by omega) (blk_2nd w12 _ _) eA
 go_wp2_with (refine wpList_store_row 46 _ _ rfl rfl (w12.heap.size + 1) rfl #[.int .i64 tB, .int .u16 vB] rfl hT info46 rfl (by simp [Value.oneCell']) ?_; refine Hid.out ?_)
 generalize eB : World.setRow _ _ _ = WC
 refine Lib.hid ?_
 obtain ⟨hsp, hkeep⟩ := HSPA.out.ran hb eA eB
 have HSPB := Lib.hid hsp
 have HSB := Lib.hid (hkeep hst)
 replace HSs := Lib.hid (hkeep (HSs.out.next hb))
 replace HSA := Lib.hid (hkeep (HSA.out.next hb))
 clear hT eA eB hkeep hsp hst hb HSPA y0
 go_wp2_with (first | refine wpList_load_row 35 _ rfl rfl w3.heap.size rfl #[.slice E.pb E.banks.length E.cb, .int .u16 E.entry, .int .u16 E.vector, .slice E.pd E.nd E.cd, .slice E.pr E.nr E.cr] (HSPB.out.blk _ (.tail _ (.tail _ (.tail _ (.tail _ (.head _)))))).1 Try.underlying35 info35 ?_ | refine wpList_load_row 51 _ rfl rfl (w3.heap.size + 1 + 1) rfl #[.slice E.pin E.tin.length E.cin, .slice E.pirq E.tirq.length E.cirq] (HSPB.out.blk _ (.tail _ (.tail _ (.tail _ (.tail _ (.tail _ (.tail _ (.head _)))))))).1 Try.underlying51 info51 ?_ | refine wpList_load_row 43 _ rfl rfl w12.heap.size rfl (snC XB (ramS XB.ram) (.slice q1B XB.st.length d1B) (.slice q2B XB.out.length d2B)) (HSPB.out.blk _ (.head _)).1 Try.underlying43 info43 ?_)
 refine (Run_any (HSB.out.norm HSPB.out.env) d1B d2B HSB.out.cap KB (by have := HK.out; omega) (by have := HK.out; have := HO.out; have := HLB.out; omega)).mono ?_
 rintro e w15 ⟨C, rfl, hs, hb⟩
 obtain ⟨q1C, d1C, q2C, d2C, rfl, hin⟩ := hs.cells
 obtain ⟨XC, hX⟩ : ∃ X, runM E KB (normM XB (ramS XB.ram) XB.st) = X := ⟨_, rfl⟩
 rw [hX] at hin ⊢
 obtain ⟨hst, hid, hnz, hlen⟩ := ran_st (HSB.out.norm HSPB.out.env) (by have := HK.out; have := HO.out; have := HLB.out; omega) HSB.out.size (congrArg Prod.fst hX) hin
 have HXC := Lib.hid hX
 have HIC := Lib.hid hid
 have HZC := Lib.hid hnz
 have HLC := Lib.hid hlen
 clear hX hs hid hnz hlen hin
 obtain ⟨XC, tC, vC⟩ := XC
 dsimp only at hst HIC HZC HLC ⊢
 go_wp2_with (refine wpList_store_row 43 _ _ rfl rfl w15.heap.size rfl (snC XC (ramS XC.ram) (.slice q1C XC.st.length d1C) (.slice q2C XC.out.length d2C)) rfl (blk_mid1 w15 _ _) info43 rfl (snC_one _ _ _ _ _ _ _ _) ?_; refine Hid.out ?_)
 generalize eA : World.setRow _ _ _ = WD
 refine Lib.hid ?_
 have hT := sr_oth8 (by omega) (blk_2nd w15 _ _) eA
 go_wp2_with (refine wpList_store_row 46 _ _ rfl rfl (w15.heap.size + 1) rfl #[.int .i64 tC, .int .u16 vC] rfl hT info46 rfl (by simp [Value.oneCell']) ?_; refine Hid.out ?_)
 generalize eB : World.setRow _ _ _ = WE
 refine Lib.hid ?_
 obtain ⟨hsp, hkeep⟩ := HSPB.out.ran hb eA eB
 have HSPC := Lib.hid hsp
 have HSC := Lib.hid (hkeep hst)
 replace HSs := Lib.hid (hkeep (HSs.out.next hb))
 replace HSA := Lib.hid (hkeep (HSA.out.next hb))
 replace HSB := Lib.hid (hkeep (HSB.out.next hb))
 clear hT eA eB hkeep hsp hst hb HSPB
 have yB : WE.cell? ⟨w12.heap.size + 1, 0, none⟩ = some (.int .i64 tB) := Lib.cell_of_heap (HSPC.out.blk _ (.tail _ (.tail _ (.tail _ (.head _))))).1 0
 by_cases e7 : tB = 7
 ·have ee : runM E (KA + KB) (normM m S l) = runM E KB (runM E KA (normM m S l)).1 := runM_split KB KA (normM_nz m S l HSs.out.size) (by rw [HXB.out]; exact e7)
  have eAC : (XA, tA, vA) = (XC, tC, vC) := by rw [← HXA.out, ← HXC.out, HIB.out, ee, HXB.out]
  simp only [Prod.mk.injEq] at eAC
  have HU := Lib.hid eAC
  subst e7
  clear ee eAC
  go_upto_region 10 with (fail)
  go_wp2_with (first | refine wpList_load_row 35 _ rfl rfl w3.heap.size rfl #[.slice E.pb E.banks.length E.cb, .int .u16 E.entry, .int .u16 E.vector, .slice E.pd E.nd E.cd, .slice E.pr E.nr E.cr] (HSPC.out.blk _ (.tail _ (.tail _ (.tail _ (.tail _ (.tail _ (.tail _ (.head _)))))))).1 Try.underlying35 info35 ?_ | refine wpList_load_row 51 _ rfl rfl (w3.heap.size + 1 + 1) rfl #[.slice E.pin E.tin.length E.cin, .slice E.pirq E.tirq.length E.cirq] (HSPC.out.blk _ (.tail _ (.tail _ (.tail _ (.tail _ (.tail _ (.tail _ (.tail _ (.tail _ (.head _)))))))))).1 Try.underlying51 info51 ?_ | refine wpList_load_row 43 _ rfl rfl w15.heap.size rfl (snC XC (ramS XC.ram) (.slice q1C XC.st.length d1C) (.slice q2C XC.out.length d2C)) (HSPC.out.blk _ (.head _)).1 Try.underlying43 info43 ?_)
  refine (Run_any (HSC.out.norm HSPC.out.env) d1C d2C HSC.out.cap 1 (by have := HK.out; omega) (by have := HK.out; have := HO.out; have := HLC.out; have := HLB.out; omega)).mono ?_
  rintro e w18 ⟨C, rfl, hs, hb⟩
  obtain ⟨q1D, d1D, q2D, d2D, rfl, hin⟩ := hs.cells
  obtain ⟨XD, hX⟩ : ∃ X, runM E 1 (normM XC (ramS XC.ram) XC.st) = X := ⟨_, rfl⟩
  rw [hX] at hin ⊢
  obtain ⟨hst, hid, hnz, hlen⟩ := ran_st (HSC.out.norm HSPC.out.env) (by have := HK.out; have := HO.out; have := HLC.out; have := HLB.out; omega) HSC.out.size (congrArg Prod.fst hX) hin
  have HXD := Lib.hid hX
  have HID := Lib.hid hid
  have HZD := Lib.hid hnz
  have HLD := Lib.hid hlen
  clear hX hs hid hnz hlen hin
  obtain ⟨XD, tD, vD⟩ := XD
  dsimp only at hst HID HZD HLD ⊢
  go_wp2_with (refine wpList_store_row 43 _ _ rfl rfl w18.heap.size rfl (snC XD (ramS XD.ram) (.slice q1D XD.st.length d1D) (.slice q2D XD.out.length d2D)) rfl (blk_mid1 w18 _ _) info43 rfl (snC_one _ _ _ _ _ _ _ _) ?_; refine Hid.out ?_)
  generalize eA : World.setRow _ _ _ = WF
  refine Lib.hid ?_
  have hT := sr_oth8 (by omega) (blk_2nd w18 _ _) eA
  go_wp2_with (refine wpList_store_row 46 _ _ rfl rfl (w18.heap.size + 1) rfl #[.int .i64 tD, .int .u16 vD] rfl hT info46 rfl (by simp [Value.oneCell']) ?_; refine Hid.out ?_)
  generalize eB : World.setRow _ _ _ = WG
  refine Lib.hid ?_
  obtain ⟨hsp, hkeep⟩ := HSPC.out.ran hb eA eB
  have HSPD := Lib.hid hsp
  have HSD := Lib.hid (hkeep hst)
  replace HSs := Lib.hid (hkeep (HSs.out.next hb))
  replace HSA := Lib.hid (hkeep (HSA.out.next hb))
  replace HSB := Lib.hid (hkeep (HSB.out.next hb))
  replace HSC := Lib.hid (hkeep (HSC.out.next hb))
  clear hT eA eB hkeep hsp hst hb HSPC
  have hg46 := guard46
  have q46 : ∀ W, (binOp .eql 46 (.agg #[.int .i64 tA, .int .u16 vA]) (.agg #[.int .i64 tC, .int .u16 vC])).run Try.prog W = .ok (.bool true) W := fun W => by rw [eql46, HU.out.2.1, HU.out.2.2]; simp
  have yC : WG.cell? ⟨w15.heap.size + 1, 0, none⟩ = some (.int .i64 tC) := Lib.cell_of_heap (HSPD.out.blk _ (.tail _ (.tail _ (.tail _ (.head _))))).1 0
  by_cases c7 : tC = 7
  ·subst c7
   go_upto_region 12 with (fail)
   go_wp2_with (first | refine wpList_load_rg 43 _ rfl rfl w15.heap.size rfl (snC XC (ramS XC.ram) (.slice q1C XC.st.length d1C) (.slice q2C XC.out.length d2C)) (HSPD.out.blk _ (.tail _ (.tail _ (.head _)))).1 Try.underlying43 info43 ?_ | refine wpList_load_rg 46 _ rfl rfl (w15.heap.size + 1) rfl #[.int .i64 7, .int .u16 vC] (HSPD.out.blk _ (.tail _ (.tail _ (.tail _ (.head _))))).1 Try.underlying46 info46 ?_ | refine wpList_load_rg 43 _ rfl rfl w12.heap.size rfl (snC XB (ramS XB.ram) (.slice q1B XB.st.length d1B) (.slice q2B XB.out.length d2B)) (HSPD.out.blk _ (.tail _ (.tail _ (.tail _ (.tail _ (.head _)))))).1 Try.underlying43 info43 ?_ | refine wpList_load_rg 46 _ rfl rfl (w12.heap.size + 1) rfl #[.int .i64 tB, .int .u16 vB] (HSPD.out.blk _ (.tail _ (.tail _ (.tail _ (.tail _ (.tail _ (.head _))))))).1 Try.underlying46 info46 ?_ | refine wpList_load_rg 43 _ rfl rfl w9.heap.size rfl (snC XA (ramS XA.ram) (.slice q1A XA.st.length d1A) (.slice q2A XA.out.length d2A)) (HSPD.out.blk _ (.tail _ (.tail _ (.tail _ (.tail _ (.tail _ (.tail _ (.head _)))))))).1 Try.underlying43 info43 ?_ | refine wpList_load_rg 46 _ rfl rfl (w9.heap.size + 1) rfl #[.int .i64 tA, .int .u16 vA] (HSPD.out.blk _ (.tail _ (.tail _ (.tail _ (.tail _ (.tail _ (.tail _ (.tail _ (.head _))))))))).1 Try.underlying46 info46 ?_)
   refine (Same_true HSA.out.normE HSC.out.normE d1A d2A d1C d2C HSA.out.cap HSC.out.cap (by rw [HIA.out, HIC.out]; exact HU.out.1) (by have := HK.out; have := HO.out; have := HLA.out; have := HLB.out; have := HLC.out; omega)).mono ?_
   rintro e w21 ⟨rfl, hs⟩
   have HSPF := Lib.hid (HSPD.out.next hs)
   clear hs
   go_wp2_with fail
   exact bodyPost_ret (v := .bool true) (by simp [results, Try.results8, go_sem]) rfl ⟨rfl, HSPF.out.bel⟩
  ·have d7 : decide (tC = 7) = false := decide_eq_false c7
   have b7 : (tC == 7) = false := by simpa using c7
   have hD : (XD, tD, vD) = (XC, tC, vC) := by
    have h9 := (runM_trap (E := E) KB (m := XB) HZB.out (by rw [← HIB.out, HXC.out]; exact c7)).2 0
    rw [← HIB.out, HXC.out] at h9
    rw [← HXD.out, HIC.out]
    exact h9
   simp only [Prod.mk.injEq] at hD
   have HUD := Lib.hid hD
   clear hD
   have p46 : ∀ W, (binOp .eql 46 (.agg #[.int .i64 tD, .int .u16 vD]) (.agg #[.int .i64 tC, .int .u16 vC])).run Try.prog W = .ok (.bool true) W := fun W => by rw [eql46, HUD.out.2.1, HUD.out.2.2]; simp
   go_wp2_with (first | refine wpList_load_rg 43 _ rfl rfl w18.heap.size rfl (snC XD (ramS XD.ram) (.slice q1D XD.st.length d1D) (.slice q2D XD.out.length d2D)) (HSPD.out.blk _ (.head _)).1 Try.underlying43 info43 ?_ | refine wpList_load_rg 46 _ rfl rfl (w18.heap.size + 1) rfl #[.int .i64 tD, .int .u16 vD] (HSPD.out.blk _ (.tail _ (.head _))).1 Try.underlying46 info46 ?_ | refine wpList_load_rg 43 _ rfl rfl w15.heap.size rfl (snC XC (ramS XC.ram) (.slice q1C XC.st.length d1C) (.slice q2C XC.out.length d2C)) (HSPD.out.blk _ (.tail _ (.tail _ (.head _)))).1 Try.underlying43 info43 ?_ | refine wpList_load_rg 46 _ rfl rfl (w15.heap.size + 1) rfl #[.int .i64 tC, .int .u16 vC] (HSPD.out.blk _ (.tail _ (.tail _ (.tail _ (.head _))))).1 Try.underlying46 info46 ?_)
   refine (Same_true HSC.out.normE HSD.out.normE d1C d2C d1D d2D HSC.out.cap HSD.out.cap (by rw [HIC.out, HID.out]; exact HUD.out.1.symm) (by have := HK.out; have := HO.out; have := HLA.out; have := HLB.out; have := HLC.out; omega)).mono ?_
   rintro e w20 ⟨rfl, hs⟩
   have HSPE := Lib.hid (HSPD.out.next hs)
   replace HSA := Lib.hid (HSA.out.next hs)
   replace HSC := Lib.hid (HSC.out.next hs)
   clear hs
   go_wp2_with (first | refine wpList_load_rg 43 _ rfl rfl w15.heap.size rfl (snC XC (ramS XC.ram) (.slice q1C XC.st.length d1C) (.slice q2C XC.out.length d2C)) (HSPE.out.blk _ (.tail _ (.tail _ (.head _)))).1 Try.underlying43 info43 ?_ | refine wpList_load_rg 46 _ rfl rfl (w15.heap.size + 1) rfl #[.int .i64 tC, .int .u16 vC] (HSPE.out.blk _ (.tail _ (.tail _ (.tail _ (.head _))))).1 Try.underlying46 info46 ?_ | refine wpList_load_rg 43 _ rfl rfl w9.heap.size rfl (snC XA (ramS XA.ram) (.slice q1A XA.st.length d1A) (.slice q2A XA.out.length d2A)) (HSPE.out.blk _ (.tail _ (.tail _ (.tail _ (.tail _ (.tail _ (.tail _ (.head _)))))))).1 Try.underlying43 info43 ?_ | refine wpList_load_rg 46 _ rfl rfl (w9.heap.size + 1) rfl #[.int .i64 tA, .int .u16 vA] (HSPE.out.blk _ (.tail _ (.tail _ (.tail _ (.tail _ (.tail _ (.tail _ (.tail _ (.head _))))))))).1 Try.underlying46 info46 ?_)
   refine (Same_true HSA.out.normE HSC.out.normE d1A d2A d1C d2C HSA.out.cap HSC.out.cap (by rw [HIA.out, HIC.out]; exact HU.out.1) (by have := HK.out; have := HO.out; have := HLA.out; have := HLB.out; have := HLC.out; omega)).mono ?_
   rintro e w21 ⟨rfl, hs⟩
   have HSPF := Lib.hid (HSPE.out.next hs)
   clear hs
   go_wp2_with fail
   exact bodyPost_ret (v := .bool true) (by simp [results, Try.results8, go_sem]) rfl ⟨rfl, HSPF.out.bel⟩
 have ht := runM_trap (E := E) KA (normM_nz m S l HSs.out.size) (by rw [HXB.out]; exact e7)
 have eAB : (XA, tA, vA) = (XB, tB, vB) := HXA.out.symm.trans ((ht.1 KB).trans HXB.out)
 have hC : runM E KB XB = (XC, tC, vC) := by rw [← HXC.out, HIB.out]
 have eC : XC = XB ∧ (KB = 0 ∧ tC = 7 ∨ KB ≠ 0 ∧ tC = tB ∧ vC = vB) := by
  have h2 := ht.2
  rw [HXB.out] at h2
  cases KB with
  | zero =>
   have h9 : (XB, ((7 : Int), (0 : Int))) = (XC, tC, vC) := hC
   simp only [Prod.mk.injEq] at h9
   exact ⟨h9.1.symm, .inl ⟨rfl, h9.2.1.symm⟩⟩
  | succ k =>
   have h9 := (h2 k).symm.trans hC
   simp only [Prod.mk.injEq] at h9
   exact ⟨h9.1.symm, .inr ⟨by omega, h9.2.1.symm, h9.2.2.symm⟩⟩
 simp only [Prod.mk.injEq] at eAB
 obtain ⟨uX, ut, uv⟩ := eAB
 obtain ⟨uC, uw⟩ := eC
 have HU := Lib.hid (And.intro uX (And.intro ut uv))
 have HUC := Lib.hid (And.intro uC uw)
 have b7 : (tB == 7) = false := by simpa using e7
 have d7 : decide (tB = 7) = false := decide_eq_false e7
 have n7 : (tB != 7) = true := by simpa using e7
 clear ht hC uX ut uv uC uw
 go_upto_region 8 with (fail)
 have yC : WE.cell? ⟨w15.heap.size + 1, 0, none⟩ = some (.int .i64 tC) := Lib.cell_of_heap (HSPC.out.blk _ (.tail _ (.head _))).1 0
 have q46 : ∀ W, (binOp .eql 46 (.agg #[.int .i64 tA, .int .u16 vA]) (.agg #[.int .i64 tB, .int .u16 vB])).run Try.prog W = .ok (.bool true) W := fun W => by rw [eql46, HU.out.2.1, HU.out.2.2]; simp
 have hg46 := guard46
 rcases HUC.out.2 with ⟨z0, z7⟩ | ⟨z0, zt, zv⟩
 ·subst z0
  rw [z7] at yC
  go_wp2_with (first | refine wpList_load_rg 43 _ rfl rfl w12.heap.size rfl (snC XB (ramS XB.ram) (.slice q1B XB.st.length d1B) (.slice q2B XB.out.length d2B)) (HSPC.out.blk _ (.tail _ (.tail _ (.head _)))).1 Try.underlying43 info43 ?_ | refine wpList_load_rg 46 _ rfl rfl (w12.heap.size + 1) rfl #[.int .i64 tB, .int .u16 vB] (HSPC.out.blk _ (.tail _ (.tail _ (.tail _ (.head _))))).1 Try.underlying46 info46 ?_ | refine wpList_load_rg 43 _ rfl rfl w9.heap.size rfl (snC XA (ramS XA.ram) (.slice q1A XA.st.length d1A) (.slice q2A XA.out.length d2A)) (HSPC.out.blk _ (.tail _ (.tail _ (.tail _ (.tail _ (.head _)))))).1 Try.underlying43 info43 ?_ | refine wpList_load_rg 46 _ rfl rfl (w9.heap.size + 1) rfl #[.int .i64 tA, .int .u16 vA] (HSPC.out.blk _ (.tail _ (.tail _ (.tail _ (.tail _ (.tail _ (.head _))))))).1 Try.underlying46 info46 ?_)
  refine (Same_true HSA.out.normE HSB.out.normE d1A d2A d1B d2B HSA.out.cap HSB.out.cap (by rw [HIA.out, HIB.out]; exact HU.out.1) (by have := HK.out; have := HO.out; have := HLA.out; have := HLB.out; have := HLC.out; omega)).mono ?_
  rintro e w17 ⟨rfl, hs⟩
  have HSPD := Lib.hid (HSPC.out.next hs)
  replace HSB := Lib.hid (HSB.out.next hs)
  replace HSC := Lib.hid (HSC.out.next hs)
  clear hs
  go_wp2_with (first | refine wpList_load_rg 43 _ rfl rfl w15.heap.size rfl (snC XC (ramS XC.ram) (.slice q1C XC.st.length d1C) (.slice q2C XC.out.length d2C)) (HSPD.out.blk _ (.head _)).1 Try.underlying43 info43 ?_ | refine wpList_load_rg 46 _ rfl rfl (w15.heap.size + 1) rfl #[.int .i64 tC, .int .u16 vC] (HSPD.out.blk _ (.tail _ (.head _))).1 Try.underlying46 info46 ?_ | refine wpList_load_rg 43 _ rfl rfl w12.heap.size rfl (snC XB (ramS XB.ram) (.slice q1B XB.st.length d1B) (.slice q2B XB.out.length d2B)) (HSPD.out.blk _ (.tail _ (.tail _ (.head _)))).1 Try.underlying43 info43 ?_ | refine wpList_load_rg 46 _ rfl rfl (w12.heap.size + 1) rfl #[.int .i64 tB, .int .u16 vB] (HSPD.out.blk _ (.tail _ (.tail _ (.tail _ (.head _))))).1 Try.underlying46 info46 ?_)
  refine (Same_true HSB.out.normE HSC.out.normE d1B d2B d1C d2C HSB.out.cap HSC.out.cap (by rw [HIB.out, HIC.out]; exact HUC.out.1.symm) (by have := HK.out; have := HO.out; have := HLA.out; have := HLB.out; have := HLC.out; omega)).mono ?_
  rintro e w18 ⟨rfl, hs⟩
  have HSPE := Lib.hid (HSPD.out.next hs)
  clear hs
  go_wp2_with fail
  exact bodyPost_ret (v := .bool true) (by simp [results, Try.results8, go_sem]) rfl ⟨rfl, HSPE.out.bel⟩
 ·have dk : decide ((KB : Int) = 0) = false := decide_eq_false (by omega)
  have dn : decide (KB = 0) = false := decide_eq_false z0
  have bk : ((KB : Int) == 0) = false := by simpa using z0
  have p46 : ∀ W, (binOp .eql 46 (.agg #[.int .i64 tC, .int .u16 vC]) (.agg #[.int .i64 tB, .int .u16 vB])).run Try.prog W = .ok (.bool true) W := fun W => by rw [eql46, zt, zv]; simp
  go_wp2_with (first | refine wpList_load_rg 43 _ rfl rfl w15.heap.size rfl (snC XC (ramS XC.ram) (.slice q1C XC.st.length d1C) (.slice q2C XC.out.length d2C)) (HSPC.out.blk _ (.head _)).1 Try.underlying43 info43 ?_ | refine wpList_load_rg 46 _ rfl rfl (w15.heap.size + 1) rfl #[.int .i64 tC, .int .u16 vC] (HSPC.out.blk _ (.tail _ (.head _))).1 Try.underlying46 info46 ?_ | refine wpList_load_rg 43 _ rfl rfl w12.heap.size rfl (snC XB (ramS XB.ram) (.slice q1B XB.st.length d1B) (.slice q2B XB.out.length d2B)) (HSPC.out.blk _ (.tail _ (.tail _ (.head _)))).1 Try.underlying43 info43 ?_ | refine wpList_load_rg 46 _ rfl rfl (w12.heap.size + 1) rfl #[.int .i64 tB, .int .u16 vB] (HSPC.out.blk _ (.tail _ (.tail _ (.tail _ (.head _))))).1 Try.underlying46 info46 ?_ | refine wpList_load_rg 43 _ rfl rfl w9.heap.size rfl (snC XA (ramS XA.ram) (.slice q1A XA.st.length d1A) (.slice q2A XA.out.length d2A)) (HSPC.out.blk _ (.tail _ (.tail _ (.tail _ (.tail _ (.head _)))))).1 Try.underlying43 info43 ?_ | refine wpList_load_rg 46 _ rfl rfl (w9.heap.size + 1) rfl #[.int .i64 tA, .int .u16 vA] (HSPC.out.blk _ (.tail _ (.tail _ (.tail _ (.tail _ (.tail _ (.head _))))))).1 Try.underlying46 info46 ?_)
  refine (Same_true HSA.out.normE HSB.out.normE d1A d2A d1B d2B HSA.out.cap HSB.out.cap (by rw [HIA.out, HIB.out]; exact HU.out.1) (by have := HK.out; have := HO.out; have := HLA.out; have := HLB.out; have := HLC.out; omega)).mono ?_
  rintro e w17 ⟨rfl, hs⟩
  have HSPD := Lib.hid (HSPC.out.next hs)
  replace HSB := Lib.hid (HSB.out.next hs)
  replace HSC := Lib.hid (HSC.out.next hs)
  clear hs
  go_wp2_with (first | refine wpList_load_rg 43 _ rfl rfl w15.heap.size rfl (snC XC (ramS XC.ram) (.slice q1C XC.st.length d1C) (.slice q2C XC.out.length d2C)) (HSPD.out.blk _ (.head _)).1 Try.underlying43 info43 ?_ | refine wpList_load_rg 46 _ rfl rfl (w15.heap.size + 1) rfl #[.int .i64 tC, .int .u16 vC] (HSPD.out.blk _ (.tail _ (.head _))).1 Try.underlying46 info46 ?_ | refine wpList_load_rg 43 _ rfl rfl w12.heap.size rfl (snC XB (ramS XB.ram) (.slice q1B XB.st.length d1B) (.slice q2B XB.out.length d2B)) (HSPD.out.blk _ (.tail _ (.tail _ (.head _)))).1 Try.underlying43 info43 ?_ | refine wpList_load_rg 46 _ rfl rfl (w12.heap.size + 1) rfl #[.int .i64 tB, .int .u16 vB] (HSPD.out.blk _ (.tail _ (.tail _ (.tail _ (.head _))))).1 Try.underlying46 info46 ?_)
  refine (Same_true HSB.out.normE HSC.out.normE d1B d2B d1C d2C HSB.out.cap HSC.out.cap (by rw [HIB.out, HIC.out]; exact HUC.out.1.symm) (by have := HK.out; have := HO.out; have := HLA.out; have := HLB.out; have := HLC.out; omega)).mono ?_
  rintro e w18 ⟨rfl, hs⟩
  have HSPE := Lib.hid (HSPD.out.next hs)
  clear hs
  go_wp2_with fail
  exact bodyPost_ret (v := .bool true) (by simp [results, Try.results8, go_sem]) rfl ⟨rfl, HSPE.out.bel⟩
end Go.Proofs.Ytieaicdihingkaa
