/- CpuSame: the walk. -/
import Derived.Test.YtieaicdihingkaaHE
import Derived.Deep.CutBlock
namespace Go.Proofs.Ytieaicdihingkaa
set_option linter.unusedVariables false
set_option linter.unusedSimpArgs false
open Go.RowKit
theorem info73 : (Try.prog.info? 73).map (·.size) = some 6 := by kernel_rfl
theorem z51_all (a b : Option Addr) (n c m d : Nat) : (#[.slice a n c, .slice b m d] : Array Value).all (·.oneCell') = true := by simp [Value.oneCell']
theorem i35_all (a b c : Option Addr) (n m k l r s : Nat) (x y : Int) : (#[.slice a n m, .int .u16 x, .int .u16 y, .slice b k l, .slice c r s] : Array Value).all (·.oneCell') = true := by simp [Value.oneCell']
theorem wpList_load_rg {ops : Array Oper} {rest : List Oper} {o : Oper} {a : Act} {Q : Exit → Act → World → Prop} {W : World} (t : TypeId) (x : Operand) (hgd : Region.wanted o (yielded ops a.tmps) = true) (ho : o.op = .load t x) (N : Nat) (hx : a.eval x = .pointer (some ⟨N, 0, none⟩)) (C : Array Value) {e : TypeId}
  (hN : W.heap[N]? = some (.cells C e (0, 0))) {fs : Array Field} (hu : Try.prog.underlying t = some (.struct fs)) (hi : (Try.prog.info? t).map (·.size) = some C.size) (h : wpList Try.prog ops Q rest (a.put o.dst (.agg C)) W) : wpList Try.prog ops Q (o :: rest) a W := by
 refine wpList_step fun K hK => ?_
 rw [if_pos hgd]
 have hl := run_loadVar_row (P := Try.prog) W N e t C (0, 0) _ hN hu rfl hi
 unfold Oper.wp execOp
 simp only [ho, hx, Instr.loadAt, Instr.sureAddr, Sem.run_bind, Sem.run_pure, Result.andThen_ok, hl]
 exact hK _ _ h
theorem bk0 (w : World) : BkIn w w [] := ⟨Below.refl _ _, fun x hx => (by cases hx), fun i j x y hi => (by simp at hi)⟩
theorem BkIn.cellE {w0 W V : World} {bs : List Blk} (h : BkIn w0 W bs) (i : Nat) {A k : Nat} {c C : Array Value} {t : TypeId} {v : Value} (hi : bs[i]? = some (A, c, t)) (e : W.setCell ⟨A, k, none⟩ v = V) (hc : c.setIfInBounds k v = C) : BkIn w0 V (bs.set i (A, C, t)) := hc ▸ h.cell i hi e
theorem snC_ram (m : Mach) (S T : ByteArray) (u v : Value) : (snC m S u v).setIfInBounds 16 (.string T) = snC m T u v := rfl
theorem snC_sp (m : Mach) (S : ByteArray) (u v : Value) (x : Int) : (snC m S u v).setIfInBounds 9 (.int .u16 x) = snC { m with sp := x } S u v := rfl
theorem snC_st (m : Mach) (S : ByteArray) (u v u2 : Value) : (snC m S u v).setIfInBounds 17 u2 = snC m S u2 v := rfl
theorem snC_out (m : Mach) (S : ByteArray) (u v v2 : Value) : (snC m S u v).setIfInBounds 18 v2 = snC m S u v2 := rfl
theorem snC_inp (m : Mach) (S : ByteArray) (u v : Value) (x : Int) : (snC m S u v).setIfInBounds 14 (.int .i64 x) = snC { m with inputs := x } S u v := rfl
theorem snC_R3 (m : Mach) (S : ByteArray) (u v : Value) (x : Int) : (snC m S u v).setIfInBounds 3 (.int .u16 x) = snC { m with R := setR m.R 3 x } S u v := rfl
/-- The setup, as far as the law wants it. -/
theorem setup_L {w w' : World} {e : Ending} (h : SetupPost w e w') : ∃ (pb : Option Addr) (banks : List ByteArray) (cb : Nat) (vec : Int) (m : Mach) (S : ByteArray) (l : List Int) (p1 p2 : Option Addr) (c1 c2 : Nat) (pin : Option Addr) (cin : Nat) (tin : List Int) (pirq : Option Addr) (cirq : Nat) (tirq : List Int),
  e = .returned (.tuple #[.agg #[.slice pb banks.length cb, .int .u16 0, .int .u16 vec, .slice none 0 0, .slice none 0 0], .agg (snC m S (.slice p1 l.length c1) (.slice p2 m.out.length c2)), .agg #[.slice pin tin.length cin, .slice pirq tirq.length cirq]]) ∧ StIn w' m S l p1 p2 c1 c2 ∧ m.out = [] ∧ S.size = 8192 ∧ 2 ≤ l.length ∧ l.length ≤ 9 ∧ Below w.heap.size w w' := by
 obtain ⟨pb, banks, cb, vec, m, S, l, p1, p2, c1, c2, pin, cin, tin, pirq, cirq, tirq, rfl, him, hst, htp, h3⟩ := h
 have ho : m.out = [] := hst.words.out
 refine ⟨pb, banks, cb, vec, m, S, l, p1, p2, c1, c2, pin, cin, tin, pirq, cirq, tirq, by rw [ho]; rfl, ?_, ho, hst.size, hst.len.1, hst.len.2, h3⟩
 obtain ⟨b, hb⟩ := hst.out
 have hw := hst.words
 refine ⟨hst.st, ⟨b, by rw [ho]; exact hb⟩, ?_, hw.sp, by have := hst.len; omega, by rw [hst.size]; decide⟩
 refine ⟨hw.R, hw.pc, ?_, hw.fp, hw.f, hw.bank, hw.steps, hw.inputs, hw.polls, fun j => byteI_bd _ _, fun x hx => hst.ok x (List.mem_of_mem_take hx), ?_, ?_, ?_⟩
 ·show OkU16 ((min l.length 4096 : Nat) : Int)
  exact ⟨by omega, by omega⟩
 ·show (l.take 4096).length ≤ 4096
  rw [List.length_take]; omega
 ·show m.out.length ≤ _
  rw [ho]; decide
 ·intro x hx
  have hx : x ∈ m.out := hx
  rw [ho] at hx
  cases hx
set_option maxRecDepth 100000 in
set_option maxHeartbeats 20000000 in
theorem cpuSame_walk (p : Option Addr) (n cap : Nat) (n0 n1 n2 n3 : Int) (pt : Option Addr) (capt : Nat) (L : List Int) (na nb kk : Int) (w : World) (hp : FivesAt w.heap.size w p n) (hcap : n ≤ cap) (hl : n ≤ 9223372036854775807) (ht : RowLow w.heap.size w pt .i64 L) (hnt : L.length ≤ 9223372036854775807) (a0 : 0 ≤ na) (a1 : na < 65536) (b0 : 0 ≤ nb) (b1 : nb < 65536) (q0 : 0 ≤ kk) (q1 : kk < 256) :
  Calls Try.prog 9 #[.agg #[.slice p n cap, .int .i64 n0, .int .i64 n1, .int .i64 n2, .int .i64 n3, .slice pt L.length capt], .agg #[.int .u16 na, .int .u16 nb], .int .u8 kk] w (EvPost w true) := by
 have HP := Lib.hid hp
 have HT := Lib.hid ht
 have HN := Lib.hid (And.intro hcap (And.intro hl hnt))
 obtain ⟨NA, rfl⟩ : ∃ NA : Nat, na = (NA : Int) := ⟨na.toNat, by omega⟩
 obtain ⟨KK, rfl⟩ : ∃ KK : Nat, kk = (KK : Int) := ⟨kk.toNat, by omega⟩
 have HNB : Hid (OkU16 nb) := Lib.hid ⟨b0, b1⟩
 have HKK : Hid (KK < 256) := Lib.hid (by omega)
 have xa : IntKind.i64.wrap (NA : Int) = (NA : Int) := IntWalk.i64_in _ (by omega)
 obtain ⟨k0, hk0⟩ : ∃ k0, NA % 8193 = k0 := ⟨_, rfl⟩
 have xm : (NA : Int).tmod 8193 = (k0 : Int) := by rw [← hk0, Int.tmod_eq_emod_of_nonneg (by omega)]; omega
 have HK0 : Hid (k0 ≤ 8192) := Lib.hid (by omega)
 clear hp ht hcap hl hnt a0 a1 b0 b1 q0 q1 hk0
 go_enter Try.func9, Try.ntmps9
 go_upto_region 1 with (fail)
 generalize e0 : (w.alloc _).alloc _ = W0
 have HB0 : Hid (BkIn w W0 [(w.heap.size + 1, #[.int .u16 (NA : Int), .int .u16 nb], 23), (w.heap.size, #[.slice p n cap, .int .i64 n0, .int .i64 n1, .int .i64 n2, .int .i64 n3, .slice pt L.length capt], 73)]) := Lib.hid ((bk0 w).two e0)
 clear e0
 go_wp2_with fail
 refine (sanity_any _).mono ?_
 rintro e w1 ⟨rfl, h1⟩
 have HB1 := Lib.hid (HB0.out.next h1)
 clear h1 HB0
 go_wp2_with (refine wpList_load_row 73 _ rfl rfl w.heap.size rfl #[.slice p n cap, .int .i64 n0, .int .i64 n1, .int .i64 n2, .int .i64 n3, .slice pt L.length capt] (HB1.out.at 1 rfl) Try.underlying73 info73 ?_)
 refine (setup_some p n cap n0 n1 n2 n3 pt L.length capt L _ ((HP.out.next HB1.out.bel).up HB1.out.bel.size) HN.out.1 HN.out.2.1 (row_low HT.out HB1.out.bel) rfl HN.out.2.2).mono ?_
 intro e w3 hpost
 obtain ⟨pb, banks, cb, vec, m, S, l, p1, p2, c1, c2, pin, cin, tin, pirq, cirq, tirq, rfl, hst, hout, hsz, hl2, hl9, h3⟩ := setup_L hpost
 have HX3 := Lib.hid (HB1.out.next h3)
 have HS3 := Lib.hid hst
 have HB3 := Lib.hid (bk0 w3)
 have HO : Hid (m.out = []) := Lib.hid hout
 have HSZ : Hid (S.size = 8192 ∧ 2 ≤ l.length ∧ l.length ≤ 9) := Lib.hid ⟨hsz, hl2, hl9⟩
 clear hst hout hsz hl2 hl9 h3 HB1 HP HT HN hpost
 go_wp2_with (first | refine wpList_store_row 35 _ _ rfl rfl w3.heap.size rfl #[.slice pb banks.length cb, .int .u16 0, .int .u16 vec, .slice none 0 0, .slice none 0 0] rfl (three_blocks w3 _ _ _ _ rfl).1 info35 rfl (i35_all _ _ _ _ _ _ _ _ _ _ _) ?_; refine Hid.out ?_)
 generalize eA : ((w3.alloc _).alloc _).alloc _ = WA
 generalize e4 : World.setRow _ _ _ = W4
 have hbA := HB3.out.three eA
 have HB4 := Lib.hid (hbA.row 2 rfl e4)
 refine Lib.hid ?_
 clear eA e4 hbA HB3
 go_wp2_with (refine wpList_store_row 43 _ _ rfl rfl (w3.heap.size + 1) rfl (snC m S (.slice p1 l.length c1) (.slice p2 m.out.length c2)) rfl (HB4.out.at 1 rfl) info43 rfl (snC_one _ _ _ _ _ _ _ _) ?_; refine Hid.out ?_)
 generalize e5 : World.setRow _ _ _ = W5
 have HB5 := Lib.hid (HB4.out.row 1 rfl e5)
 refine Lib.hid ?_
 clear e5 HB4
 go_wp2_with (refine wpList_store_row 51 _ _ rfl rfl (w3.heap.size + 1 + 1) rfl #[.slice pin tin.length cin, .slice pirq tirq.length cirq] rfl (HB5.out.at 0 rfl) info51 rfl (z51_all _ _ _ _ _ _) ?_; refine Hid.out ?_)
 generalize e6 : World.setRow _ _ _ = W6
 have HB6 := Lib.hid (HB5.out.row 0 rfl e6)
 refine Lib.hid ?_
 clear e6 HB5
 have y16 : W6.cell? ⟨w3.heap.size + 1, 16, none⟩ = some (.string S) := Lib.cell_of_heap (HB6.out.at 1 rfl) 16
 have z16 := at_fr (HB6.out.at 1 rfl) 16
 have n0 : W6.cell? ⟨w.heap.size + 1, 0, none⟩ = some (.int .u16 (NA : Int)) := Lib.cell_of_heap (at_next HB6.out.bel (HX3.out.at 0 rfl)) 0
 have s0 : k0 ≤ S.size := by have := HK0.out; have := HSZ.out.1; omega
 have s1 : (k0 : Int) ≤ (S.size : Int) := by omega
 have s2 : ¬ (S.size : Int) < (k0 : Int) := by omega
 go_upto_region 4 with (fail)
 generalize e7 : World.setCell _ _ _ = W7
 obtain ⟨S1, hS1⟩ : ∃ S1, S.extract 0 k0 = S1 := ⟨_, rfl⟩
 rw [hS1] at e7
 have HS1 : Hid (S1.size = k0) := Lib.hid (by rw [← hS1, ByteArray.size_extract]; omega)
 have HB7 := Lib.hid (HB6.out.cellE 1 rfl e7 (snC_ram m S S1 _ _))
 clear y16 z16 n0 s0 s1 s2 hS1 e7 HB6 xa xm
 go_wp2_with (first | refine wpList_load_row 43 _ rfl rfl (w3.heap.size + 1) rfl (snC m S1 (.slice p1 l.length c1) (.slice p2 m.out.length c2)) (HB7.out.at 1 rfl) Try.underlying43 info43 ?_ | refine wpList_store_row 43 _ _ rfl rfl W7.heap.size rfl (snC m S1 (.slice p1 l.length c1) (.slice p2 m.out.length c2)) rfl (alloc_at W7 _) info43 rfl (snC_one _ _ _ _ _ _ _ _) ?_; refine Hid.out ?_)
 generalize eA : W7.alloc _ = WA
 generalize e8 : World.setRow _ _ _ = W8
 have hbA := HB7.out.alloc eA
 have HB8 := Lib.hid (hbA.row 0 rfl e8)
 refine Lib.hid ?_
 clear eA e8 hbA HB7
 obtain ⟨RS, hRS⟩ : ∃ RS, ramS (fun _ => 0) = RS := ⟨_, rfl⟩
 have HRS := Lib.hid hRS
 obtain ⟨Z, hZs, hZ, hmk⟩ := make_bytes 8192 (by decide)
 have HMK : Hid (∀ W : World, (Instr.makeSlice 49 (.int .i64 8192) (.int .i64 8192)).run Try.prog W = .ok (.slice (some ⟨W.heap.size, 0, none⟩) 8192 8192) (W.alloc (.cells Z 5))) := Lib.hid hmk
 have HCV : Hid (∀ (W : World) (g : Nat), W.heap[g]? = some (.cells Z 5 (0, 0)) → (convert 49 9 (.slice (some ⟨g, 0, none⟩) 8192 8192)).run Try.prog W = .ok (.string RS) W) := Lib.hid fun W g hg => by
  rw [← hRS]
  refine ram_conv 8192 (fun _ => 0) g W fun j hj => ⟨?_, Int.le_refl 0, by decide⟩
  rw [Lib.cell_of_heap hg, ← Array.getElem?_toList]
  exact hZ j hj
 have HRZ : Hid (RS.size = 8192) := Lib.hid (by rw [← hRS]; exact ramS_size _)
 clear hRS hZs hZ hmk
 go_upto_region 5 with (fail)
 refine wp_region_flowR [[], [(31, 0)], [], [(33, 2)], [(32, 1), (34, 3)], [], [(31, 0), (32, 1), (33, 2), (34, 3), (35, 4), (36, 5)]] (relL [eqV (.pointer (some ⟨w3.heap.size + 1, 16, none⟩)), eqV (.string S1), RamTo W8 Z, eqV (.string RS), eqV (.string (S1 ++ RS)), eqV (.pointer (some ⟨W7.heap.size, 16, none⟩))]) (by kernel_rfl) (by kernel_rfl) ?_
 refine FlowR.step ?_ ?_
 ·intro V hV
  simp only [Dep, lQ]
  intro K hK
  go_simp
  exact hK _ _ rfl (Below.refl _ _)
 refine FlowR.step ?_ ?_
 ·intro V hV
  simp only [Dep, lQ]
  rintro x31 ⟨V31, rfl, hb31⟩
  intro K hK
  have y16 : V.cell? ⟨w3.heap.size + 1, 16, none⟩ = some (.string S1) := Lib.cell_of_heap (at_next hV (HB8.out.at 2 rfl)) 16
  go_simp
  exact hK _ _ rfl (Below.refl _ _)
 refine FlowR.step ?_ ?_
 ·intro V hV
  simp only [Dep, lQ]
  intro K hK
  refine (if_pos (by rfl)).mpr ?_
  refine wp_make_bytes rfl (HMK.out _) ?_
  exact hK _ _ ⟨_, rfl, alloc_at _ _, hV.size⟩ (below1 _ _)
 refine FlowR.step ?_ ?_
 ·intro V hV
  simp only [Dep, lQ]
  rintro x6 ⟨V6, ⟨g, rfl, hg, hgl⟩, hb6⟩
  intro K hK
  obtain hcv := HCV.out _ g ((hb6.block _ (Array.getElem?_eq_some_iff.1 hg).1).trans hg)
  go_simp
  exact hK _ _ rfl (Below.refl _ _)
 refine FlowR.step ?_ ?_
 ·intro V hV
  simp only [Dep, lQ]
  rintro x6 ⟨V6, rfl, hb6⟩
  rintro x7 ⟨V7, rfl, hb7⟩
  intro K hK
  have t0 : ¬ 9223372036854775807 < S1.size + RS.size := by have := HS1.out; have := HRZ.out; have := HK0.out; omega
  go_simp
  exact hK _ _ rfl (Below.refl _ _)
 refine FlowR.step ?_ ?_
 ·intro V hV
  simp only [Dep, lQ]
  intro K hK
  go_simp
  exact hK _ _ rfl (Below.refl _ _)
 refine FlowR.last ?_
 intro V hV
 simp only [Dep, lQ]
 rintro x31 ⟨V31, rfl, _⟩ x32 ⟨V32, rfl, _⟩ x33 ⟨V33, _, _⟩ x34 ⟨V34, rfl, _⟩ x35 ⟨V35, rfl, _⟩ x36 ⟨V36, rfl, _⟩
 intro K hK
 have HBV := Lib.hid (HB8.out.next hV)
 have y16 : ∃ u, V.cell? ⟨W7.heap.size, 16, none⟩ = some u := ⟨_, Lib.cell_of_heap (HBV.out.at 0 rfl) 16⟩
 obtain ⟨u, y16⟩ := y16
 have z16 : V.frozen? ⟨W7.heap.size, 16, none⟩ = false := at_fr (HBV.out.at 0 rfl) 16
 go_simp
 refine hK _ _ ?_
 generalize e9 : World.setCell _ _ _ = W9
 have HB9 := Lib.hid (HBV.out.cellE 0 rfl e9 (snC_ram m S1 (S1 ++ RS) _ _))
 clear hK hV y16 z16 e9 HBV HB8 HMK HCV u
 have n1 : W9.cell? ⟨w.heap.size + 1, 1, none⟩ = some (.int .u16 nb) := Lib.cell_of_heap (at_next HB9.out.bel (HX3.out.at 0 rfl)) 1
 have y9 : W9.cell? ⟨W7.heap.size, 9, none⟩ = some (.int .u16 m.sp) := Lib.cell_of_heap (HB9.out.at 0 rfl) 9
 have z9 : W9.frozen? ⟨W7.heap.size, 9, none⟩ = false := at_fr (HB9.out.at 0 rfl) 9
 go_upto_region 7 with (fail)
 generalize e10 : World.setCell _ _ _ = WX
 have HBX := Lib.hid (HB9.out.cellE 0 rfl e10 (snC_sp m (S1 ++ RS) _ _ nb))
 clear n1 y9 z9 e10 HB9
 go_wp2_with (first | refine wpList_load_row 43 _ rfl rfl (w3.heap.size + 1) rfl (snC m S1 (.slice p1 l.length c1) (.slice p2 m.out.length c2)) (HBX.out.at 2 rfl) Try.underlying43 info43 ?_ | refine wpList_store_row 43 _ _ rfl rfl WX.heap.size rfl (snC m S1 (.slice p1 l.length c1) (.slice p2 m.out.length c2)) rfl (alloc_at WX _) info43 rfl (snC_one _ _ _ _ _ _ _ _) ?_; refine Hid.out ?_)
 generalize eA : WX.alloc _ = WA
 generalize e11 : World.setRow _ _ _ = WY
 have hbA := HBX.out.alloc eA
 have HBY := Lib.hid (hbA.row 0 rfl e11)
 refine Lib.hid ?_
 clear eA e11 hbA HBX
 have HSY := Lib.hid (HS3.out.next HBY.out.bel)
 have y17 : (WY.alloc (.cells #[] 22)).cell? ⟨w3.heap.size + 1, 17, none⟩ = some (.slice p1 l.length c1) := Lib.cell_of_heap ((HBY.out.alloc rfl).at 4 rfl) 17
 go_wp2_with (at_builtin; refine Hid.out ?_)
 refine Lib.hid ?_
 obtain ⟨bs, hbs⟩ := HSY.out.st
 refine wpList_plain rfl fun K hK => ?_
 refine wp_app _ _ 40 22 (.int .u16 0) 1 2 rfl Try.underlying40 info22 rfl (by decide) WY.heap.size (.slice (some ⟨WY.heap.size, 0, none⟩) 0 0) 0 [] rfl (own_new0 (Nat.le_refl _)) p1 l.length c1 (l.map (Value.int .u16)) rfl (by simp) (own_rowSrc (own_next hbs (below1 WY _)) (by decide)) (fun u hu => by obtain ⟨x, _, rfl⟩ := List.mem_map.1 hu; rfl) (by have := HSZ.out; unfold maxLen; omega) (by have := HSZ.out; omega) (below1 WY _).size ?_
 intro v9 W12 hown hg _
 refine hK _ _ ?_
 rw [Nat.zero_add, List.nil_append] at hown
 obtain ⟨pB, cB, rfl⟩ := own_slice2 hown
 have hbB := (HBY.out.next (below1 WY (.cells #[] 22))).kept (v := .slice (some ⟨WY.heap.size, 0, none⟩) 0 0) (own_new0 (e := 22) (size := 1) (Nat.le_refl _)) HBY.out.bel.size hg (by simp)
 have HBZ := Lib.hid hbB
 have HOW := Lib.hid (own_low hown HBY.out.bel.size)
 have x17 : W12.cell? ⟨WX.heap.size, 17, none⟩ = some (.slice p1 l.length c1) := Lib.cell_of_heap (HBZ.out.at 0 rfl) 17
 have z17 : W12.frozen? ⟨WX.heap.size, 17, none⟩ = false := at_fr (HBZ.out.at 0 rfl) 17
 clear hbB hown hg hbs bs y17 HBY HSY hK
 obtain ⟨r, hr⟩ : ∃ r : Nat, KK % 5 = r := ⟨_, rfl⟩
 have xk : (KK : Int).tmod 5 = (r : Int) := by rw [Int.tmod_eq_emod_of_nonneg (by omega)]; omega
 have xk' : (KK : Int) % 5 = (r : Int) := by omega
 have HR5 : Hid (r < 5) := Lib.hid (by omega)
 clear hr
 go_upto_block 0 with (fail)
 clear xk xk'
 generalize e13 : World.setCell _ _ _ = W13
 have HB13 : Hid (BkIn w3 W13 ((WX.heap.size, (snC m S1 (.slice pB l.length cB) (.slice p2 m.out.length c2)), 43) :: [(W7.heap.size, (snC { m with sp := nb } (S1 ++ RS) (.slice p1 l.length c1) (.slice p2 m.out.length c2)), 43), (w3.heap.size + 1 + 1, #[.slice pin tin.length cin, .slice pirq tirq.length cirq], 51), (w3.heap.size + 1, (snC m S1 (.slice p1 l.length c1) (.slice p2 m.out.length c2)), 43), (w3.heap.size, #[.slice pb banks.length cb, .int .u16 0, .int .u16 vec, .slice none 0 0, .slice none 0 0], 35)])) := Lib.hid (HBZ.out.cellE 0 rfl e13 (snC_st m S1 _ _ _))
 have HOW13 : Hid (W13.ownsRow w3.heap.size 22 1 (.slice pB l.length cB) l.length (l.map (Value.int .u16))) := Lib.hid (by
  rw [← e13, set_row (HBZ.out.at 0 rfl)]
  exact row_any HOW.out (HBZ.out.at 0 rfl) (by decide))
 have HS1M : Hid (∀ V, Below w3.heap.size w3 V → StIn V m S1 l p1 p2 c1 c2) := Lib.hid fun V hV => (HS3.out.next hV).ram (by rw [HS1.out]; exact HK0.out)
 have HSB : Hid (StIn W13 m S1 l pB p2 cB c2) := Lib.hid (by
  have h9 := HS1M.out W13 HB13.out.bel
  exact ⟨⟨_, HOW13.out⟩, h9.out, h9.ok, h9.spk, h9.len, h9.size⟩)
 clear e13 HBZ HOW x17 z17
 go_cut [] (fun wx => BState w3 WX.heap.size [(W7.heap.size, (snC { m with sp := nb } (S1 ++ RS) (.slice p1 l.length c1) (.slice p2 m.out.length c2)), 43), (w3.heap.size + 1 + 1, #[.slice pin tin.length cin, .slice pirq tirq.length cirq], 51), (w3.heap.size + 1, (snC m S1 (.slice p1 l.length c1) (.slice p2 m.out.length c2)), 43), (w3.heap.size, #[.slice pb banks.length cb, .int .u16 0, .int .u16 vec, .slice none 0 0, .slice none 0 0], 35)] wx)
 case first =>
  have hr : r = 0 ∨ r = 1 ∨ r = 2 ∨ r = 3 ∨ r = 4 := by have := HR5.out; omega
  rcases hr with rfl | rfl | rfl | rfl | rfl
  ·rw [show ((0 : Nat) : Int) = 0 from rfl]
   have y3 : W13.cell? ⟨WX.heap.size, 3, none⟩ = some (.int .u16 (m.R 3)) := Lib.cell_of_heap (HB13.out.at 0 rfl) 3
   have z3 : W13.frozen? ⟨WX.heap.size, 3, none⟩ = false := at_fr (HB13.out.at 0 rfl) 3
   go_wp2_with fail
   go_meet
   generalize e14 : World.setCell _ _ _ = W14
   have hb := HB13.out.cellE 0 rfl e14 (snC_R3 m S1 _ _ _)
   have hs := (HSB.out.cell (HB13.out.at 0 rfl) e14 (by decide)).mach (m' := { m with R := setR m.R 3 (IntKind.u16.wrap (m.R 3 + 1)) }) rfl { HSB.out.ok with R := setR_ok HSB.out.ok.R (u16_ok _) } HSB.out.spk
   exact ⟨_, _, _, _, _, _, _, hb, hs, by have := HSZ.out; omega⟩
  ·rw [show ((1 : Nat) : Int) = 1 from rfl]
   have xu : IntKind.u32.wrap (KK : Int) = (KK : Int) := by
    have := HKK.out
    rw [show IntKind.u32.wrap (KK : Int) = (KK : Int) % 4294967296 from rfl]
    omega
   have xu' : (KK : Int) % 4294967296 = (KK : Int) := by have := HKK.out; omega
   go_wp2_with fail
   refine (fill_some (KK : Int) 30 _ (by omega) (by have := HKK.out; omega) (by decide)).mono ?_
   rintro e w14 ⟨SF, rfl, hsf, h14⟩
   have HB14 := Lib.hid (HB13.out.next h14)
   have HSB14 := Lib.hid (HSB.out.next h14)
   have HSF := Lib.hid hsf
   have t0 : ¬ 9223372036854775807 < (⟨#[1]⟩ : ByteArray).size + SF.size := by rw [hsf]; decide
   have t1 : ¬ 9223372036854775807 < 1 + SF.size := by rw [hsf]; decide
   have y16 : w14.cell? ⟨WX.heap.size, 16, none⟩ = some (.string S1) := Lib.cell_of_heap (HB14.out.at 0 rfl) 16
   have z16 : w14.frozen? ⟨WX.heap.size, 16, none⟩ = false := at_fr (HB14.out.at 0 rfl) 16
   clear h14 hsf
   go_wp2_with fail
   go_meet
   generalize e14 : World.setCell _ _ _ = W14
   have hb := HB14.out.cellE 0 rfl e14 (snC_ram m S1 _ _ _)
   have hs := (HSB14.out.cell (HB14.out.at 0 rfl) e14 (by decide)).ram (T := (⟨#[1]⟩ : ByteArray) ++ SF) (by rw [ByteArray.size_append, HSF.out]; decide)
   exact ⟨_, _, _, _, _, _, _, hb, hs, by have := HSZ.out; omega⟩
  ·rw [show ((2 : Nat) : Int) = 2 from rfl]
   have y17' : W13.cell? ⟨WX.heap.size, 17, none⟩ = some (.slice pB l.length cB) := Lib.cell_of_heap (HB13.out.at 0 rfl) 17
   go_wp2_with (at_builtin; refine Hid.out ?_)
   refine Lib.hid ?_
   refine wpList_plain (by rfl) fun K hK => ?_
   refine wp_app _ _ 40 22 (.int .u16 0) 1 2 rfl Try.underlying40 info22 rfl (by decide) w3.heap.size (.slice pB l.length cB) l.length (l.map (Value.int .u16)) rfl (own_next HOW13.out (below1 W13 _)) (some ⟨W13.heap.size, 0, none⟩) 1 1 [.int .u16 1] rfl rfl (own_rowSrc (own_new1 (W := W13) (e := 22) (size := 1) (cs := [.int .u16 1]) rfl (by simp [Value.oneCell']) (by decide)) (by decide)) (by simp [Value.oneCell']) (by have := HSZ.out; unfold maxLen; omega) (by have := HSZ.out; omega) (Nat.le_trans HB13.out.bel.size (below1 W13 _).size) ?_
   intro v9 W15 hown hg _
   refine hK _ _ ?_
   obtain ⟨lB, hlB⟩ : ∃ lB, l ++ [1] = lB := ⟨_, rfl⟩
   have hlen : lB.length = l.length + 1 := by rw [← hlB]; simp
   rw [← hlen, show l.map (Value.int .u16) ++ [Value.int .u16 1] = lB.map (Value.int .u16) by rw [← hlB]; simp] at hown
   have HLN := Lib.hid (And.intro hlB hlen)
   obtain ⟨pC, cC, rfl⟩ := own_slice2 hown
   have hbK := (HB13.out.next (below1 W13 (.cells #[.int .u16 1] 22))).kept (own_next HOW13.out (below1 W13 _)) (Nat.le_refl _) hg (by simp)
   have HB15 := Lib.hid hbK
   have HOW15 := Lib.hid hown
   have x17 : W15.cell? ⟨WX.heap.size, 17, none⟩ = some (.slice pB l.length cB) := Lib.cell_of_heap (HB15.out.at 0 rfl) 17
   have z17 : W15.frozen? ⟨WX.heap.size, 17, none⟩ = false := at_fr (HB15.out.at 0 rfl) 17
   clear hbK hown hg y17' hlen hlB hK
   go_wp2_with fail
   go_meet
   generalize e14 : World.setCell _ _ _ = W14
   have hb := HB15.out.cellE 0 rfl e14 (snC_st m S1 _ _ _)
   have h9 := HS1M.out W14 hb.bel
   have h0 := HSZ.out
   have h1 := HLN.out
   have hs : StIn W14 m S1 lB pC p2 cC c2 := ⟨⟨_, by
    rw [← e14, set_row (HB15.out.at 0 rfl)]
    exact row_any HOW15.out (HB15.out.at 0 rfl) (by decide)⟩, h9.out, { h9.ok with
     sp := by
      show OkU16 ((min lB.length 4096 : Nat) : Int)
      exact ⟨by omega, by omega⟩
     st := fun x hx => by
      have hx : x ∈ lB.take 4096 := hx
      have hx := List.mem_of_mem_take hx
      rw [← h1.1] at hx
      rcases List.mem_append.1 hx with h8 | h8
      ·refine h9.ok.st x ?_
       show x ∈ l.take 4096
       rw [List.take_of_length_le (by omega)]
       exact h8
      ·obtain rfl : x = 1 := by simpa using h8
       exact ⟨by decide, by decide⟩
     len := by
      show (lB.take 4096).length ≤ 4096
      rw [List.length_take]
      omega }, h9.spk, by omega, h9.size⟩
   exact ⟨m, S1, lB, pC, p2, cC, c2, hb, hs, by omega⟩
  ·rw [show ((3 : Nat) : Int) = 3 from rfl]
   have y18 : (W13.alloc (.cells #[.int .u16 3, .int .u16 0] 54)).cell? ⟨WX.heap.size, 18, none⟩ = some (.slice p2 m.out.length c2) := Lib.cell_of_heap ((HB13.out.alloc rfl).at 1 rfl) 18
   go_wp2_with (at_builtin; refine Hid.out ?_)
   refine Lib.hid ?_
   have hnew := own_new1 (W := W13) (e := 54) (size := 2) (cs := [.int .u16 3, .int .u16 0]) rfl (by simp [Value.oneCell']) (by decide)
   obtain ⟨bo, hbo⟩ := HSB.out.out
   have hm0 : m.out.length = 0 := by rw [HO.out]; rfl
   refine wpList_plain (by rfl) fun K hK => ?_
   refine wp_app _ _ 41 54 (.agg #[.int .u16 0, .int .u16 0]) 2 4 rfl Try.underlying41 info54 rfl (by decide) W13.heap.size (.slice (some ⟨W13.heap.size, 0, none⟩) 1 1) 1 [.int .u16 3, .int .u16 0] rfl hnew p2 m.out.length c2 (outC m.out) rfl (outC_length _) (own_rowSrc (own_next hbo (below1 W13 _)) (by decide)) (outC_one _) (by rw [hm0]; decide) (by rw [hm0]; decide) (below1 W13 _).size ?_
   intro v9 W15 hown hg _
   refine hK _ _ ?_
   rw [HO.out] at hown
   have hown : W15.ownsRow W13.heap.size 54 2 v9 1 [.int .u16 3, .int .u16 0] := hown
   obtain ⟨pC, cC, rfl⟩ := own_slice2 hown
   have HB15 := Lib.hid ((HB13.out.next (below1 W13 _)).kept hnew HB13.out.bel.size hg (by simp))
   have HOW15 := Lib.hid hown
   have HST15 := Lib.hid ((own_next HOW13.out (below1 W13 _)).kept hg (own_old HOW13.out))
   have x18 : W15.cell? ⟨WX.heap.size, 18, none⟩ = some (.slice p2 m.out.length c2) := Lib.cell_of_heap (HB15.out.at 0 rfl) 18
   have z18 : W15.frozen? ⟨WX.heap.size, 18, none⟩ = false := at_fr (HB15.out.at 0 rfl) 18
   clear hown hg y18 hK hnew hbo bo hm0
   go_wp2_with fail
   go_meet
   generalize e14 : World.setCell _ _ _ = W14
   have hb := HB15.out.cellE 0 rfl e14 (snC_out m S1 _ _ _)
   have h9 := HSB.out
   have h0 := HSZ.out
   have hs : StIn W14 { m with out := [(3, 0)] } S1 l pB pC cB cC := ⟨⟨_, by
    rw [← e14, set_row (HB15.out.at 0 rfl)]
    exact row_any HST15.out (HB15.out.at 0 rfl) (by decide)⟩, ⟨_, by
    rw [← e14, set_row (HB15.out.at 0 rfl)]
    exact row_any HOW15.out (HB15.out.at 0 rfl) (by decide)⟩, { h9.ok with
     out := by show ([((3 : Int), (0 : Int))] : List (Int × Int)).length ≤ _; decide
     outs := fun x hx => by
      obtain rfl : x = (3, 0) := by simpa using (show x ∈ [((3 : Int), (0 : Int))] from hx)
      exact ⟨⟨by decide, by decide⟩, ⟨by decide, by decide⟩⟩ }, h9.spk, h9.len, h9.size⟩
   exact ⟨{ m with out := [(3, 0)] }, S1, l, pB, pC, cB, cC, hb, hs, by omega⟩
  ·rw [show ((4 : Nat) : Int) = 4 from rfl]
   have y14 : W13.cell? ⟨WX.heap.size, 14, none⟩ = some (.int .i64 m.inputs) := Lib.cell_of_heap (HB13.out.at 0 rfl) 14
   have z14 : W13.frozen? ⟨WX.heap.size, 14, none⟩ = false := at_fr (HB13.out.at 0 rfl) 14
   go_wp2_with fail
   go_meet
   generalize e14 : World.setCell _ _ _ = W14
   have hb := HB13.out.cellE 0 rfl e14 (snC_inp m S1 _ _ _)
   have hs := fun (x : Int) (hx : OkI64 x) => (HSB.out.cell (HB13.out.at 0 rfl) e14 (by decide)).mach (m' := { m with inputs := x }) rfl { HSB.out.ok with inputs := hx } HSB.out.spk
   exact ⟨_, S1, l, pB, p2, cB, c2, hb, hs _ (by first | exact i64_ok _ | exact wrap_i64_bd _), by have := HSZ.out; omega⟩
 case rest =>
 obtain ⟨mB, SB, lB, pD, p3, cD, c3, hb, hs, hlb⟩ := hcut
 have HBC := Lib.hid hb
 have HSC := Lib.hid hs
 have HLB := Lib.hid hlb
 clear hb hs hlb HB13 HOW13 HSB
 go_wp2_with (refine wpList_load_row 43 _ rfl rfl W7.heap.size rfl (snC { m with sp := nb } (S1 ++ RS) (.slice p1 l.length c1) (.slice p2 m.out.length c2)) (HBC.out.at 1 rfl) Try.underlying43 info43 ?_)
 have HNA : ∀ V, Below w3.heap.size w3 V → NormIn V emptyE { m with sp := nb } (S1 ++ RS) l p1 p2 := fun V hV => HRS.out ▸ (HS1M.out V hV).wide HNB.out
 have HNA := Lib.hid HNA
 have ho0 : m.out.length = 0 := by rw [HO.out]; rfl
 have HO0 := Lib.hid ho0
 have HCAP : Hid (l.length ≤ c1) := Lib.hid (HS1M.out _ HBC.out.bel).cap
 refine (Run_any (E := emptyE) (HNA.out _ HBC.out.bel) c1 c2 HCAP.out 0 (by decide) (by show m.out.length + 0 ≤ _; rw [ho0]; decide)).mono ?_
 clear ho0
 rintro e w15 ⟨C, rfl, hs, hb⟩
 obtain ⟨q1, d1, q2, d2, rfl, hin⟩ := hs.cells
 obtain ⟨Y, hY⟩ : ∃ Y, normM m S1 l = Y := ⟨_, rfl⟩
 have hX : runM emptyE 0 (normM { m with sp := nb } (S1 ++ RS) l) = (Y, 7, 0) := by rw [← HRS.out, norm_wide, hY]; rfl
 rw [hX] at hin ⊢
 dsimp only at hin ⊢
 have hst := st_norm (HS1M.out _ HBC.out.bel) hY hin
 have HBR := Lib.hid (HBC.out.next hb)
 have HSBR := Lib.hid (HSC.out.next hb)
 have HSY := Lib.hid hst.1
 have HID := Lib.hid hst.2
 have HYN := Lib.hid hY
 have HYS : Hid (Y.sp = (Y.st.length : Int) ∧ Y.st.length ≤ 4096) := Lib.hid (by rw [← hY]; exact ⟨(normM_nz m S1 l (by rw [HS1.out]; exact HK0.out)).sp, by show (l.take 4096).length ≤ 4096; rw [List.length_take]; omega⟩)
 clear hs hb hin hX hst hY HBC HSC
 go_wp2_with (refine wpList_store_row 43 _ _ rfl rfl w15.heap.size rfl (snC Y (ramS Y.ram) (.slice q1 Y.st.length d1) (.slice q2 Y.out.length d2)) rfl (blk_mid1 w15 _ _) info43 rfl (snC_one _ _ _ _ _ _ _ _) ?_; refine Hid.out ?_)
 generalize eA : (w15.alloc _).alloc _ = WA
 generalize e16 : World.setRow _ _ _ = WD
 have hbA := HBR.out.two eA
 have HBD := Lib.hid (hbA.row 1 rfl e16)
 refine Lib.hid ?_
 go_wp2_with (refine wpList_store_row 46 _ _ rfl rfl (w15.heap.size + 1) rfl #[.int .i64 7, .int .u16 0] rfl (HBD.out.at 0 rfl) info46 rfl (by simp [Value.oneCell']) ?_; refine Hid.out ?_)
 generalize e17 : World.setRow _ _ _ = WF
 have HBF := Lib.hid (HBD.out.row 0 rfl e17)
 have HSYF := Lib.hid (HSY.out.ran eA e16 e17)
 have HSBF := Lib.hid (HSBR.out.ran eA e16 e17)
 refine Lib.hid ?_
 clear eA e16 e17 hbA HBD HBR HSBR HSY
 have HSS := Lib.hid (HS1M.out WF HBF.out.bel)
 have HAA := Lib.hid (HNA.out WF HBF.out.bel)
 obtain ⟨bs, hbs⟩ : ∃ bs : Bool, bs = true ↔ SameM (normM m S1 l) (normM mB SB lB) := by classical exact ⟨decide (SameM (normM m S1 l) (normM mB SB lB)), by simp⟩
 have HBS := Lib.hid hbs
 clear hbs
 have l9 : l.length ≤ 4096 := by have := HSZ.out; omega
 have HL9 := Lib.hid l9
 clear l9
 have HQ1 : Hid (∀ V, Below WF.heap.size WF V → Calls Try.prog 22 #[.agg (snC m S1 (.slice p1 l.length c1) (.slice p2 m.out.length c2)), .agg (snC { m with sp := nb } (S1 ++ RS) (.slice p1 l.length c1) (.slice p2 m.out.length c2))] V (fun e w' => e = .returned (.bool true) ∧ Below V.heap.size V w')) := Lib.hid fun V hV => (Same_any (HSS.out.next hV).normE (HNA.out V (below_next HBF.out.bel hV)) c1 c2 c1 c2 HCAP.out HCAP.out (by rw [HO0.out]; decide) (by show m.out.length ≤ _; rw [HO0.out]; decide)).mono fun e w' h => same_tt (X := normM m S1 l) (by rw [← HRS.out, norm_wide] at h; exact h)
 have HQ2 : Hid (∀ V, Below WF.heap.size WF V → Calls Try.prog 22 #[.agg (snC m S1 (.slice p1 l.length c1) (.slice p2 m.out.length c2)), .agg (snC mB SB (.slice pD lB.length cD) (.slice p3 mB.out.length c3))] V (fun e w' => e = .returned (.bool bs) ∧ Below V.heap.size V w')) := Lib.hid fun V hV => (Same_any (HSS.out.next hV).normE (HSBF.out.next hV).normE c1 c2 cD c3 HCAP.out HSBF.out.cap (by rw [HO0.out]; decide) HSBF.out.ok.out).mono fun e w' h => same_bb HBS.out h
 have HQ3 : Hid (∀ V, Below WF.heap.size WF V → Calls Try.prog 18 #[.agg (snC m S1 (.slice p1 l.length c1) (.slice p2 m.out.length c2)), .agg (snC mB SB (.slice pD lB.length cD) (.slice p3 mB.out.length c3))] V (fun e w' => e = .returned (.bool bs) ∧ Below V.heap.size V w')) := Lib.hid fun V hV => (rSame_any ((HSS.out.next hV).load HL9.out) ((HSBF.out.next hV).load HLB.out)).mono fun e w' h => same_bb HBS.out h
 have HQ4 : Hid (∀ V, Below WF.heap.size WF V → Calls Try.prog 18 #[.agg (snC Y (ramS Y.ram) (.slice q1 Y.st.length d1) (.slice q2 Y.out.length d2)), .agg (snC m S1 (.slice p1 l.length c1) (.slice p2 m.out.length c2))] V (fun e w' => e = .returned (.bool true) ∧ Below V.heap.size V w')) := Lib.hid fun V hV => (rSame_any ((HSYF.out.next hV).load HYS.out.2) ((HSS.out.next hV).load HL9.out)).mono fun e w' h => same_tt (X := Y) (by rw [HID.out, HYN.out] at h; exact h)
 have xs : IntKind.i64.wrap (Y.st.length : Int) = (Y.st.length : Int) := IntWalk.i64_in _ (by have := HYS.out; omega)
 have hrs : (ramS Y.ram).size = 8192 := ramS_size _
 obtain ⟨RY, hRY⟩ : ∃ RY, ramS Y.ram = RY := ⟨_, rfl⟩
 have HCY : Hid (∀ V, Below WF.heap.size WF V → V.cell? ⟨w15.heap.size, 16, none⟩ = some (.string RY) ∧ V.cell? ⟨w15.heap.size, 9, none⟩ = some (.int .u16 (Y.st.length : Int)) ∧ V.cell? ⟨w15.heap.size, 17, none⟩ = some (.slice q1 Y.st.length d1)) := Lib.hid fun V hV => by
  have h9 := at_next hV (HBF.out.at 1 rfl)
  exact ⟨hRY ▸ Lib.cell_of_heap h9 16, HYS.out.1 ▸ Lib.cell_of_heap h9 9, Lib.cell_of_heap h9 17⟩
 rw [hRY] at hrs HQ4
 have HRY := Lib.hid hRY
 clear hRY
 go_upto_region 20 with (fail)
 refine wp_region_flow (S := fun W => Below WF.heap.size WF W) (by kernel_rfl) (by kernel_rfl) (Below.drew (Below.refl _ _)) ?_
 iterate 2
  apply Flow.step
  ·intro V K hS hK
   obtain ⟨y16, y9, y17⟩ := HCY.out V hS
   go_simp
   exact hK _ hS
  simp only [lQ]
 apply Flow.step
 ·intro V K hS hK
  refine (if_pos (by rfl)).mpr ?_
  refine wp_load_row 43 _ rfl (w3.heap.size + 1) rfl (snC m S1 (.slice p1 l.length c1) (.slice p2 m.out.length c2)) (at_next hS (HBF.out.at 5 rfl)) Try.underlying43 info43 ?_
  exact hK _ hS
 simp only [lQ]
 apply Flow.step
 ·intro V K hS hK
  refine (if_pos (by rfl)).mpr ?_
  refine wp_load_row 43 _ rfl (W7.heap.size) rfl (snC { m with sp := nb } (S1 ++ RS) (.slice p1 l.length c1) (.slice p2 m.out.length c2)) (at_next hS (HBF.out.at 3 rfl)) Try.underlying43 info43 ?_
  exact hK _ hS
 simp only [lQ]
 apply Flow.step
 ·intro V K hS hK
  go_simp
  go_at_call 22
  refine (HQ1.out V hS).mono ?_
  rintro e w9 ⟨rfl, h9⟩
  exact hK _ (below_next hS h9)
 simp only [lQ]
 iterate 2
  apply Flow.step
  ·intro V K hS hK
   obtain ⟨y16, y9, y17⟩ := HCY.out V hS
   go_simp
   exact hK _ hS
  simp only [lQ]
 apply Flow.step
 ·intro V K hS hK
  refine (if_pos (by rfl)).mpr ?_
  refine wp_load_row 43 _ rfl (w3.heap.size + 1) rfl (snC m S1 (.slice p1 l.length c1) (.slice p2 m.out.length c2)) (at_next hS (HBF.out.at 5 rfl)) Try.underlying43 info43 ?_
  exact hK _ hS
 simp only [lQ]
 apply Flow.step
 ·intro V K hS hK
  refine (if_pos (by rfl)).mpr ?_
  refine wp_load_row 43 _ rfl (WX.heap.size) rfl (snC mB SB (.slice pD lB.length cD) (.slice p3 mB.out.length c3)) (at_next hS (HBF.out.at 2 rfl)) Try.underlying43 info43 ?_
  exact hK _ hS
 simp only [lQ]
 apply Flow.step
 ·intro V K hS hK
  go_simp
  go_at_call 22
  refine (HQ2.out V hS).mono ?_
  rintro e w9 ⟨rfl, h9⟩
  exact hK _ (below_next hS h9)
 simp only [lQ]
 apply Flow.step
 ·intro V K hS hK
  refine (if_pos (by rfl)).mpr ?_
  refine wp_load_row 43 _ rfl (w3.heap.size + 1) rfl (snC m S1 (.slice p1 l.length c1) (.slice p2 m.out.length c2)) (at_next hS (HBF.out.at 5 rfl)) Try.underlying43 info43 ?_
  exact hK _ hS
 simp only [lQ]
 apply Flow.step
 ·intro V K hS hK
  refine (if_pos (by rfl)).mpr ?_
  refine wp_load_row 43 _ rfl (WX.heap.size) rfl (snC mB SB (.slice pD lB.length cD) (.slice p3 mB.out.length c3)) (at_next hS (HBF.out.at 2 rfl)) Try.underlying43 info43 ?_
  exact hK _ hS
 simp only [lQ]
 apply Flow.step
 ·intro V K hS hK
  go_simp
  go_at_call 18
  refine (HQ3.out V hS).mono ?_
  rintro e w9 ⟨rfl, h9⟩
  exact hK _ (below_next hS h9)
 simp only [lQ]
 iterate 19
  apply Flow.step
  ·intro V K hS hK
   obtain ⟨y16, y9, y17⟩ := HCY.out V hS
   go_simp
   exact hK _ hS
  simp only [lQ]
 apply Flow.step
 ·intro V K hS hK
  refine (if_pos (by rfl)).mpr ?_
  refine wp_load_row 43 _ rfl (w15.heap.size) rfl (snC Y RY (.slice q1 Y.st.length d1) (.slice q2 Y.out.length d2)) (HRY.out ▸ at_next hS (HBF.out.at 1 rfl)) Try.underlying43 info43 ?_
  exact hK _ hS
 simp only [lQ]
 apply Flow.step
 ·intro V K hS hK
  refine (if_pos (by rfl)).mpr ?_
  refine wp_load_row 43 _ rfl (w3.heap.size + 1) rfl (snC m S1 (.slice p1 l.length c1) (.slice p2 m.out.length c2)) (at_next hS (HBF.out.at 5 rfl)) Try.underlying43 info43 ?_
  exact hK _ hS
 simp only [lQ]
 apply Flow.step
 ·intro V K hS hK
  go_simp
  go_at_call 18
  refine (HQ4.out V hS).mono ?_
  rintro e w9 ⟨rfl, h9⟩
  exact hK _ (below_next hS h9)
 simp only [lQ]
 iterate 2
  apply Flow.step
  ·intro V K hS hK
   obtain ⟨y16, y9, y17⟩ := HCY.out V hS
   go_simp
   exact hK _ hS
  simp only [lQ]
 refine Flow.done ?_
 intro V hS
 have HBE := Lib.hid (below_next HX3.out.bel (below_next HBF.out.bel hS))
 clear hS
 go_wp2_with fail
 exact bodyPost_ret (v := .bool true) (by simp [results, Try.results9, go_sem]) rfl ⟨rfl, HBE.out⟩
end Go.Proofs.Ytieaicdihingkaa
