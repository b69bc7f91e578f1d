/- Call: a function of an image, with arguments, where the stack has room for them. -/
import Derived.Test.YtieaicdihingkaaHK
namespace Go.Proofs.Ytieaicdihingkaa
set_option linter.unusedVariables false
set_option linter.unusedSimpArgs false
open Go.RowKit
theorem six_blks (w W : World) (a b c d e f : Obj) (h : (((((w.alloc a).alloc b).alloc c).alloc d).alloc e).alloc f = W) : W.heap[w.heap.size]? = some a ∧ W.heap[w.heap.size + 1]? = some b ∧ W.heap[w.heap.size + 1 + 1]? = some c ∧ W.heap[w.heap.size + 1 + 1 + 1]? = some d ∧ W.heap[w.heap.size + 1 + 1 + 1 + 1]? = some e ∧ W.heap[w.heap.size + 1 + 1 + 1 + 1 + 1]? = some f ∧ Below w.heap.size w W ∧ W.heap.size = w.heap.size + 6 := by
  subst h
  have h1 := alloc_at w a
  have h2 := alloc_at (w.alloc a) b
  have h3 := alloc_at ((w.alloc a).alloc b) c
  have h4 := alloc_at (((w.alloc a).alloc b).alloc c) d
  have h5 := alloc_at ((((w.alloc a).alloc b).alloc c).alloc d) e
  have h6 := alloc_at (((((w.alloc a).alloc b).alloc c).alloc d).alloc e) f
  simp only [World.size_alloc] at h2 h3 h4 h5 h6
  have n1 := below1 (w.alloc a) b
  have n2 := below1 ((w.alloc a).alloc b) c
  have n3 := below1 (((w.alloc a).alloc b).alloc c) d
  have n4 := below1 ((((w.alloc a).alloc b).alloc c).alloc d) e
  have n5 := below1 (((((w.alloc a).alloc b).alloc c).alloc d).alloc e) f
  exact ⟨at_next n5 (at_next n4 (at_next n3 (at_next n2 (at_next n1 h1)))), at_next n5 (at_next n4 (at_next n3 (at_next n2 h2))), at_next n5 (at_next n4 (at_next n3 h3)), at_next n5 (at_next n4 h4), at_next n5 h5, h6, below_alloc (below_alloc (below_alloc (below_alloc (below_alloc (below1 w a) b) c) d) e) f, by simp only [World.size_alloc]⟩
theorem sr_blk {w W : World} {A : Nat} {C c : Array Value} {t : TypeId} {f : Nat × Nat} (h : w.heap[A]? = some (.cells c t f)) (e : w.setRow A C = W) : W.heap[A]? = some (.cells C t f) := e ▸ setRow_heap _ _ _ C _ _ h
theorem sr_oth {w W : World} {A B : Nat} {C : Array Value} {o : Obj} (hne : A ≠ B) (h : w.heap[B]? = some o) (e : w.setRow A C = W) : W.heap[B]? = some o := e ▸ (setRow_other w A B C (fun e => hne e.symm)).trans h
theorem sr_bel {w0 w W : World} {A : Nat} {C : Array Value} (h : Below w0.heap.size w0 w) (hA : w0.heap.size ≤ A) (e : w.setRow A C = W) : Below w0.heap.size w0 W := e ▸ setRow_below h hA
theorem sr_snap {W0 w W : World} {m : Mach} {vs vo : Value} {A : Nat} {c C : Array Value} {t : TypeId} (hs : SnapIn W0 w m vs vo) (ht : t ≠ 22 ∧ t ≠ 54) (h : w.heap[A]? = some (.cells c t (0, 0))) (e : w.setRow A C = W) : SnapIn W0 W m vs vo := e ▸ snap_row2 ht h hs
def callM1 (m : Mach) (args : List Int) : Mach := { m with st := m.st ++ args ++ [m.bank % 65536, 65535] }
def callM2 (m : Mach) (args : List Int) (fa : Int) : Mach := { callM1 m args with sp := ((m.st ++ args ++ [m.bank % 65536, 65535]).length : Int), pc := fa }
/-- The machine that a call starts. -/
def callMM (m : Mach) (args : List Int) (fb fa : Int) : Mach := { callM2 m args fa with bank := if 4096 ≤ fa ∧ fa < 8192 then fb else m.bank }
theorem src_args {E : Env} {V : World} {m : Mach} {sv ov : Value} (h : MachAt E V m sv ov) {p : Option Addr} {args : List Int} (hr : RowLow E.base V p .u16 args) (ho : ∀ x ∈ args, OkU16 x) : ∃ A off, Src E V p A off args ∧ (A ≠ E.B → sv.ownBlock ≠ some A) := by
  cases args with
  | nil => exact ⟨E.B, 0, ⟨.inl rfl, fun k x hk => (by cases hk), h.lt, fun _ => (by decide : 0 + 0 ≤ 24), ho⟩, fun e => absurd rfl e⟩
  | cons x t =>
    obtain ⟨A, off, e, hA, _⟩ := hr 0 x rfl
    refine ⟨A, off, ⟨.inr e, fun k y hk => ?_, Nat.lt_of_lt_of_le hA h.base, fun e => absurd h.env.lowB (by omega), ho⟩, fun _ e2 => ?_⟩
    · obtain ⟨A2, off2, e2, _, hc⟩ := hr k y hk
      rw [e] at e2
      injection e2 with e2
      injection e2 with e3 e4
      subst e3 e4
      exact hc
    · have := (h.st.lt A e2).1
      omega
set_option maxRecDepth 20000 in
set_option maxHeartbeats 8000000 in
theorem Call_any {w : World} {E : Env} {m : Mach} {S : ByteArray} {l : List Int} {ps po : Option Addr} (h : NormIn w E m S l ps po) (cs co : Nat) (hcs : l.length ≤ cs) (pa : Option Addr) (ca : Nat) (args : List Int) (hr : RowLow w.heap.size w pa .u16 args) (hok : ∀ x ∈ args, OkU16 x) (fb fa : Int) (hfa : OkU16 fa) (hfb : 0 ≤ fb ∧ fb < 64) (hand : bits .and .i64 fb 63 = fb) (hfit : (normM m S l).st.length + args.length + 2 ≤ 4096) (K : Nat) (hK : K ≤ 1000000) (ho : m.out.length + K ≤ 1000000000000) :
    Calls Try.prog 20 #[.agg #[.slice E.pb E.banks.length E.cb, .int .u16 E.entry, .int .u16 E.vector, .slice E.pd E.nd E.cd, .slice E.pr E.nr E.cr], .agg #[.slice E.pin E.tin.length E.cin, .slice E.pirq E.tirq.length E.cirq], .agg #[.int .u16 (m.R 0), .int .u16 (m.R 1), .int .u16 (m.R 2), .int .u16 (m.R 3), .int .u16 (m.R 4), .int .u16 (m.R 5), .int .u16 (m.R 6), .int .u16 (m.R 7), .int .u16 m.pc, .int .u16 m.sp, .int .u16 m.fp, .int .u16 m.f, .int .i64 m.bank, .int .i64 m.steps, .int .i64 m.inputs, .int .i64 m.polls, .string S, .slice ps l.length cs, .slice po m.out.length co], .agg #[.int .i64 fb, .int .u16 fa], .slice pa args.length ca, .int .i64 (K : Int)] w (RanPost w (runM E K (callMM (normM m S l) args fb fa))) := by
  have HH := Lib.hid h
  have HCS := Lib.hid hcs
  have HKK := Lib.hid hK
  have HOO := Lib.hid ho
  have HR := Lib.hid hr
  have HOK := Lib.hid hok
  have HFA := Lib.hid hfa
  have HFB := Lib.hid hfb
  obtain ⟨m2, hm2⟩ : ∃ m2, normM m S l = m2 := ⟨_, rfl⟩
  rw [hm2] at hfit ⊢
  have HM2 := Lib.hid hm2
  have HFIT := Lib.hid hfit
  have HOU : Hid (m2.out.length + K ≤ 1000000000000) := Lib.hid (by rw [← hm2]; exact ho)
  obtain ⟨r, hrr⟩ : ∃ r, runM E K (callMM m2 args fb fa) = r := ⟨_, rfl⟩
  rw [hrr]
  obtain ⟨m9, k9, i9⟩ := r
  have HRR := Lib.hid hrr
  clear h hcs hK ho hm2 hfit hr hok hfa hfb hrr
  go_enter Try.func20, Try.ntmps20
  go_upto_region 1 with (fail)
  generalize e0 : (((((w.alloc _).alloc _).alloc _).alloc _).alloc _).alloc _ = W0
  obtain ⟨hI, hT, hS, hP, hA, hB, hb0, hz0⟩ := six_blks _ _ _ _ _ _ _ _ e0
  have HI := Lib.hid hI
  have HT := Lib.hid hT
  have HS := Lib.hid hS
  have HP := Lib.hid hP
  have HA := Lib.hid hA
  have HB := Lib.hid hB
  have HB0 := Lib.hid hb0
  have HZ0 := Lib.hid hz0
  have HN0 := Lib.hid (HH.out.next hb0)
  have HR0 := Lib.hid (row_low HR.out hb0)
  clear e0 hI hT hS hP hA hB hb0 hz0
  go_wp2_with (first | refine wpList_load_row 35 _ rfl rfl w.heap.size rfl #[.slice E.pb E.banks.length E.cb, .int .u16 E.entry, .int .u16 E.vector, .slice E.pd E.nd E.cd, .slice E.pr E.nr E.cr] HI.out Try.underlying35 info35 ?_ | refine wpList_load_row 51 _ rfl rfl (w.heap.size + 1) rfl #[.slice E.pin E.tin.length E.cin, .slice E.pirq E.tirq.length E.cirq] HT.out Try.underlying51 info51 ?_ | refine wpList_load_row 43 _ rfl rfl (w.heap.size + 1 + 1) rfl #[.int .u16 (m.R 0), .int .u16 (m.R 1), .int .u16 (m.R 2), .int .u16 (m.R 3), .int .u16 (m.R 4), .int .u16 (m.R 5), .int .u16 (m.R 6), .int .u16 (m.R 7), .int .u16 m.pc, .int .u16 m.sp, .int .u16 m.fp, .int .u16 m.f, .int .i64 m.bank, .int .i64 m.steps, .int .i64 m.inputs, .int .i64 m.polls, .string S, .slice ps l.length cs, .slice po m.out.length co] HS.out Try.underlying43 info43 ?_)
  refine (normal_any HN0.out cs co HCS.out).mono ?_
  rintro e w3 ⟨B, g, sv, ov, rfl, hb3, hm3⟩
  rw [HM2.out] at hm3
  obtain ⟨E2, hE2⟩ : ∃ E2, { E with B := B, ramB := g, base := W0.heap.size } = E2 := ⟨_, rfl⟩
  rw [hE2] at hm3
  obtain rfl : E2.B = B := by rw [← hE2]
  have HE2 : Hid (E2.base = W0.heap.size) := Lib.hid (by rw [← hE2])
  have HRUN : Hid (∀ mm, runM E2 K mm = runM E K mm) := Lib.hid fun mm => by rw [← hE2]; exact runM_env E _ _ _ K mm
  have HB3 := Lib.hid hb3
  have HR3 : Hid (RowLow E2.base w3 pa .u16 args) := Lib.hid (by rw [HE2.out]; exact HR0.out.keeps (Keeps.of_below hb3))
  clear hE2 hb3
  obtain ⟨q3, c3, rfl, hc3, _⟩ := own_slice hm3.st
  have HM3 := Lib.hid hm3
  have c24 : w3.cell? ⟨E2.B, 24, none⟩ = some (.slice q3 m2.st.length c3) := hm3.cell 24 _ rfl
  have x1 : IntKind.i64.wrap ((m2.st.length : Int) + (args.length : Int)) = (m2.st.length : Int) + (args.length : Int) := IntWalk.i64_in _ (by have := HFIT.out; omega)
  have x2 : IntKind.i64.wrap ((m2.st.length : Int) + (args.length : Int) + 2) = (m2.st.length : Int) + (args.length : Int) + 2 := IntWalk.i64_in _ (by have := HFIT.out; omega)
  have b0 : decide (4096 < (m2.st.length : Int) + (args.length : Int) + 2) = false := decide_eq_false (by have := HFIT.out; omega)
  clear hm3 hc3
  go_wp2_with fail
  obtain ⟨A1, o1, hs1, hn1⟩ := src_args HM3.out HR3.out HOK.out
  refine (push_any HM3.out pa A1 o1 ca args hs1 hn1 (by have := HFIT.out; omega)).mono ?_
  rintro e w4 (⟨_, rfl, sv4, hm4, hk4, _⟩ | ⟨hno, _⟩)
  case inr => exact absurd (by have := HFIT.out; omega) hno
  have HM4 := Lib.hid hm4
  have HK4 := Lib.hid hk4
  clear hm4 hk4 hs1 hn1 c24 x1 x2 b0
  have c19 : w4.cell? ⟨E2.B, 19, none⟩ = some (.int .i64 m2.bank) := HM4.out.cell 19 _ rfl
  have q19 : IntKind.u16.wrap m2.bank = m2.bank % 65536 := by rw [IntKind.wrap_u16]
  go_wp2_with fail
  generalize e5 : w4.alloc _ = W5
  have HM5 := Lib.hid (HM4.out.next (al_bel e5))
  have HN5 : Hid (W5.heap[w4.heap.size]? = some (.cells #[.int .u16 (m2.bank % 65536), .int .u16 65535] 22 (0, 0))) := Lib.hid (al_blk e5)
  have HK5 := Lib.hid (HK4.out.trans (Keeps.of_below (al_bel e5)))
  have HNE : Hid (w4.heap.size ≠ E2.B ∧ sv4.ownBlock ≠ some w4.heap.size) := Lib.hid ⟨fun e => by have := HM4.out.lt; omega, fun e => by
    obtain ⟨_, _, _, hk⟩ := own_kind HM4.out.st _ e
    have := at_lt hk
    omega⟩
  have HB65 : Hid (OkU16 (m2.bank % 65536)) := Lib.hid ⟨by omega, by omega⟩
  clear e5 c19 q19
  refine (push_any HM5.out (some ⟨w4.heap.size, 0, none⟩) w4.heap.size 0 2 [m2.bank % 65536, 65535] ⟨.inr rfl, fun k x hk => ?_, at_lt HN5.out, fun e => absurd e HNE.out.1, fun x hx => ?_⟩ (fun _ => HNE.out.2) (by show 2 ≤ 100000; decide)).mono ?_
  · rw [Nat.zero_add, Lib.cell_of_heap HN5.out k]
    match k with
    | 0 => simpa using hk
    | 1 => simpa using hk
    | k + 2 => simp at hk
  · simp only [List.mem_cons, List.not_mem_nil, or_false] at hx
    rcases hx with rfl | rfl
    · exact HB65.out
    · exact ⟨by decide, by decide⟩
  rintro e w6 (⟨_, rfl, sv6, hm6, hk6, _⟩ | ⟨hno, _⟩)
  case inr => exact absurd (by show (m2.st ++ args).length + 2 ≤ 4096; rw [List.length_append]; exact HFIT.out) hno
  have hlen : (m2.st ++ args ++ [m2.bank % 65536, 65535]).length = m2.st.length + args.length + 2 := by simp; omega
  have hm6b : MachAt E2 w6 (callM1 m2 args) sv6 ov := hm6
  have HLEN := Lib.hid hlen
  obtain ⟨q6, c6, hsv6, hc6, _⟩ := own_slice hm6b.st
  subst hsv6
  have HM6 := Lib.hid hm6b
  have HK6 := Lib.hid (HK5.out.trans hk6)
  clear hm6 hk6 hm6b hlen hc6
  obtain ⟨N, hN⟩ : ∃ N, (callM1 m2 args).st.length = N := ⟨_, rfl⟩
  have HN : Hid (N = m2.st.length + args.length + 2) := Lib.hid (by rw [← hN]; exact HLEN.out)
  have c24 : w6.cell? ⟨E2.B, 24, none⟩ = some (.slice q6 N c6) := by rw [← hN]; exact HM6.out.cell 24 _ rfl
  have c16 : w6.cell? ⟨E2.B, 16, none⟩ = some (.int .u16 (callM1 m2 args).sp) := HM6.out.cell 16 _ rfl
  have z16 := HM6.out.frz 16
  have qN : IntKind.u16.wrap (N : Int) = (N : Int) := by rw [IntKind.wrap_u16]; have := HN.out; have := HFIT.out; omega
  go_upto_region 7 with (fail)
  generalize e7 : World.setCell _ _ _ = W7
  have HM7 : Hid (MachAt E2 W7 { callM1 m2 args with sp := (N : Int) } (.slice q6 (callM1 m2 args).st.length c6) ov) := Lib.hid (e7 ▸ HM6.out.setSp ⟨by omega, by have := HN.out; have := HFIT.out; omega⟩)
  have HK7 := Lib.hid (HK6.out.trans (e7 ▸ HM6.out.putK 16 _))
  clear e7 c24 c16 z16 qN
  have HPK : Hid (∀ W, Keeps E2.base w3 W → W.heap[w.heap.size + 1 + 1 + 1]? = some (.cells #[.int .i64 fb, .int .u16 fa] 66 (0, 0))) := Lib.hid fun W hW => hW.blk _ _ (at_next HB3.out HP.out) (.inl (by rw [HE2.out, HZ0.out]; omega))
  have hp7 := HPK.out _ HK7.out
  have p1 : W7.cell? ⟨w.heap.size + 1 + 1 + 1, 1, none⟩ = some (.int .u16 fa) := Lib.cell_of_heap hp7 1
  have c15 : W7.cell? ⟨E2.B, 15, none⟩ = some (.int .u16 (callM1 m2 args).pc) := HM7.out.cell 15 _ rfl
  have z15 := HM7.out.frz 15
  clear hp7
  go_upto_region 8 with (fail)
  generalize e8 : World.setCell _ _ _ = W8
  have HM8 : Hid (MachAt E2 W8 (callM2 m2 args fa) (.slice q6 (callM1 m2 args).st.length c6) ov) := Lib.hid (by
    have h9 := HM7.out.setPc HFA.out
    rw [e8, ← hN] at h9
    exact h9)
  have HK8 := Lib.hid (HK7.out.trans (e8 ▸ HM7.out.putK 15 _))
  clear e8 p1 c15 z15
  have hp8 := HPK.out _ HK8.out
  have p0 : W8.cell? ⟨w.heap.size + 1 + 1 + 1, 0, none⟩ = some (.int .i64 fb) := Lib.cell_of_heap hp8 0
  have p1 : W8.cell? ⟨w.heap.size + 1 + 1 + 1, 1, none⟩ = some (.int .u16 fa) := Lib.cell_of_heap hp8 1
  have HAK : Hid (∀ W, Keeps E2.base w3 W → W.heap[w.heap.size + 1 + 1 + 1 + 1]? = some (.cells #[.int .u16 0, .int .u16 0, .int .u16 0, .int .u16 0, .int .u16 0, .int .u16 0, .int .u16 0, .int .u16 0, .int .u16 0, .int .u16 0, .int .u16 0, .int .u16 0, .int .i64 0, .int .i64 0, .int .i64 0, .int .i64 0, .string ⟨#[]⟩, .slice none 0 0, .slice none 0 0] 43 (0, 0)) ∧ W.heap[w.heap.size + 1 + 1 + 1 + 1 + 1]? = some (.cells #[.int .i64 0, .int .u16 0] 46 (0, 0))) := Lib.hid fun W hW => ⟨hW.blk _ _ (at_next HB3.out HA.out) (.inl (by rw [HE2.out, HZ0.out]; omega)), hW.blk _ _ (at_next HB3.out HB.out) (.inl (by rw [HE2.out, HZ0.out]; omega))⟩
  clear hp8
  by_cases hw : 4096 ≤ fa ∧ fa < 8192
  · have HCM : Hid ({ callM2 m2 args fa with bank := fb } = callMM m2 args fb fa) := Lib.hid (by unfold callMM; rw [if_pos hw])
    have b1 : decide (4096 ≤ fa) = true := decide_eq_true hw.1
    have b2 : decide (fa < 8192) = true := decide_eq_true hw.2
    have c19 : W8.cell? ⟨E2.B, 19, none⟩ = some (.int .i64 (callM2 m2 args fa).bank) := HM8.out.cell 19 _ rfl
    have z19 := HM8.out.frz 19
    clear hw
    go_upto_region 10 with (fail)
    generalize e9 : World.setCell _ _ _ = W9
    have HM9 := Lib.hid (show MachAt E2 W9 { callM2 m2 args fa with bank := fb } (.slice q6 (callM1 m2 args).st.length c6) ov from e9 ▸ HM8.out.setBank ⟨by have := HFB.out; omega, by have := HFB.out; omega⟩)
    have HK9 := Lib.hid (HK8.out.trans (e9 ▸ HM8.out.putK 19 _))
    clear e9 b1 b2 c19 z19 p0 p1
    go_wp2_with fail
    refine (run_any HM9.out K HKK.out HOU.out).mono ?_
    rintro e wA ⟨C9, rfl, hs9, hk9⟩
    rw [HRUN.out, HCM.out, HRR.out] at hs9 ⊢
    dsimp only at hs9 ⊢
    obtain ⟨q1, d1, q2, d2, rfl, hin9⟩ := hs9.cells
    have HS9 := Lib.hid hin9
    have hkk := HK9.out.trans hk9
    have HBA := Lib.hid (hkk.below (by rw [HE2.out]; exact HB3.out.size))
    have HBW : Hid (Below w.heap.size w wA) := Lib.hid ((below_next HB0.out HB3.out).trans (HBA.out.mono (by rw [HE2.out]; exact HB0.out.size)))
    have HA9 := Lib.hid (HAK.out _ hkk)
    have HSW : Hid (w.heap.size ≤ W9.heap.size) := Lib.hid (Nat.le_trans (below_next HB0.out HB3.out).size HK9.out.size)
    clear hs9 hin9 hk9 hkk
    go_wp2_with (refine wpList_store_row 43 _ _ rfl rfl (w.heap.size + 1 + 1 + 1 + 1) rfl (snC m9 (ramS m9.ram) (.slice q1 m9.st.length d1) (.slice q2 m9.out.length d2)) rfl HA9.out.1 info43 rfl (snC_one _ _ _ _ _ _ _ _) ?_; refine Hid.out ?_)
    generalize eA : World.setRow _ _ _ = WA
    have HY := Lib.hid (sr_blk HA9.out.1 eA)
    have HT2 := Lib.hid (sr_oth (A := w.heap.size + 1 + 1 + 1 + 1) (by omega) HA9.out.2 eA)
    have HS2 := Lib.hid (sr_snap HS9.out (by decide) HA9.out.1 eA)
    have HW2 := Lib.hid (sr_bel HBW.out (by omega) eA)
    refine Lib.hid ?_
    clear eA
    go_wp2_with (refine wpList_store_row 46 _ _ rfl rfl (w.heap.size + 1 + 1 + 1 + 1 + 1) rfl #[.int .i64 k9, .int .u16 i9] rfl HT2.out info46 rfl (by simp [Value.oneCell']) ?_; refine Hid.out ?_)
    generalize eB : World.setRow _ _ _ = WB
    have HY3 := Lib.hid (sr_oth (A := w.heap.size + 1 + 1 + 1 + 1 + 1) (by omega) HY.out eB)
    have HT3 := Lib.hid (sr_blk HT2.out eB)
    have HS3 := Lib.hid (sr_snap HS2.out (by decide) HT2.out eB)
    have HW3 := Lib.hid (sr_bel HW2.out (by omega) eB)
    refine Lib.hid ?_
    clear eB
    go_wp2_with fail
    refine bodyPost_ret (v := .tuple #[.agg (snC m9 (ramS m9.ram) (.slice q1 m9.st.length d1) (.slice q2 m9.out.length d2)), .agg #[.int .i64 k9, .int .u16 i9]]) (rows_result rfl _ _ (w.heap.size + 1 + 1 + 1 + 1) (w.heap.size + 1 + 1 + 1 + 1 + 1) _ _ 43 46 rfl rfl HY3.out HT3.out Try.underlying43 Try.underlying46 info43 info46) rfl ?_
    exact ⟨_, rfl, Snapped.low ⟨q1, d1, q2, d2, rfl, HS3.out⟩ HSW.out, HW3.out⟩
  · have HCM : Hid (callM2 m2 args fa = callMM m2 args fb fa) := Lib.hid (by unfold callMM; rw [if_neg hw]; rfl)
    obtain ⟨W9, rfl⟩ : ∃ W9, W9 = W8 := ⟨_, rfl⟩
    have HM9 := HM8
    have HK9 := HK8
    by_cases h1 : 4096 ≤ fa
    · have b1 : decide (4096 ≤ fa) = true := decide_eq_true h1
      have b2 : decide (fa < 8192) = false := decide_eq_false (by omega)
      clear hw h1
      go_wp2_with fail
      refine (run_any HM9.out K HKK.out HOU.out).mono ?_
      rintro e wA ⟨C9, rfl, hs9, hk9⟩
      rw [HRUN.out, HCM.out, HRR.out] at hs9 ⊢
      dsimp only at hs9 ⊢
      obtain ⟨q1, d1, q2, d2, rfl, hin9⟩ := hs9.cells
      have HS9 := Lib.hid hin9
      have hkk := HK9.out.trans hk9
      have HBA := Lib.hid (hkk.below (by rw [HE2.out]; exact HB3.out.size))
      have HBW : Hid (Below w.heap.size w wA) := Lib.hid ((below_next HB0.out HB3.out).trans (HBA.out.mono (by rw [HE2.out]; exact HB0.out.size)))
      have HA9 := Lib.hid (HAK.out _ hkk)
      have HSW : Hid (w.heap.size ≤ W9.heap.size) := Lib.hid (Nat.le_trans (below_next HB0.out HB3.out).size HK9.out.size)
      clear hs9 hin9 hk9 hkk
      go_wp2_with (refine wpList_store_row 43 _ _ rfl rfl (w.heap.size + 1 + 1 + 1 + 1) rfl (snC m9 (ramS m9.ram) (.slice q1 m9.st.length d1) (.slice q2 m9.out.length d2)) rfl HA9.out.1 info43 rfl (snC_one _ _ _ _ _ _ _ _) ?_; refine Hid.out ?_)
      generalize eA : World.setRow _ _ _ = WA
      have HY := Lib.hid (sr_blk HA9.out.1 eA)
      have HT2 := Lib.hid (sr_oth (A := w.heap.size + 1 + 1 + 1 + 1) (by omega) HA9.out.2 eA)
      have HS2 := Lib.hid (sr_snap HS9.out (by decide) HA9.out.1 eA)
      have HW2 := Lib.hid (sr_bel HBW.out (by omega) eA)
      refine Lib.hid ?_
      clear eA
      go_wp2_with (refine wpList_store_row 46 _ _ rfl rfl (w.heap.size + 1 + 1 + 1 + 1 + 1) rfl #[.int .i64 k9, .int .u16 i9] rfl HT2.out info46 rfl (by simp [Value.oneCell']) ?_; refine Hid.out ?_)
      generalize eB : World.setRow _ _ _ = WB
      have HY3 := Lib.hid (sr_oth (A := w.heap.size + 1 + 1 + 1 + 1 + 1) (by omega) HY.out eB)
      have HT3 := Lib.hid (sr_blk HT2.out eB)
      have HS3 := Lib.hid (sr_snap HS2.out (by decide) HT2.out eB)
      have HW3 := Lib.hid (sr_bel HW2.out (by omega) eB)
      refine Lib.hid ?_
      clear eB
      go_wp2_with fail
      refine bodyPost_ret (v := .tuple #[.agg (snC m9 (ramS m9.ram) (.slice q1 m9.st.length d1) (.slice q2 m9.out.length d2)), .agg #[.int .i64 k9, .int .u16 i9]]) (rows_result rfl _ _ (w.heap.size + 1 + 1 + 1 + 1) (w.heap.size + 1 + 1 + 1 + 1 + 1) _ _ 43 46 rfl rfl HY3.out HT3.out Try.underlying43 Try.underlying46 info43 info46) rfl ?_
      exact ⟨_, rfl, Snapped.low ⟨q1, d1, q2, d2, rfl, HS3.out⟩ HSW.out, HW3.out⟩
    · have b1 : decide (4096 ≤ fa) = false := decide_eq_false h1
      clear hw h1
      go_wp2_with fail
      refine (run_any HM9.out K HKK.out HOU.out).mono ?_
      rintro e wA ⟨C9, rfl, hs9, hk9⟩
      rw [HRUN.out, HCM.out, HRR.out] at hs9 ⊢
      dsimp only at hs9 ⊢
      obtain ⟨q1, d1, q2, d2, rfl, hin9⟩ := hs9.cells
      have HS9 := Lib.hid hin9
      have hkk := HK9.out.trans hk9
      have HBA := Lib.hid (hkk.below (by rw [HE2.out]; exact HB3.out.size))
      have HBW : Hid (Below w.heap.size w wA) := Lib.hid ((below_next HB0.out HB3.out).trans (HBA.out.mono (by rw [HE2.out]; exact HB0.out.size)))
      have HA9 := Lib.hid (HAK.out _ hkk)
      have HSW : Hid (w.heap.size ≤ W9.heap.size) := Lib.hid (Nat.le_trans (below_next HB0.out HB3.out).size HK9.out.size)
      clear hs9 hin9 hk9 hkk
      go_wp2_with (refine wpList_store_row 43 _ _ rfl rfl (w.heap.size + 1 + 1 + 1 + 1) rfl (snC m9 (ramS m9.ram) (.slice q1 m9.st.length d1) (.slice q2 m9.out.length d2)) rfl HA9.out.1 info43 rfl (snC_one _ _ _ _ _ _ _ _) ?_; refine Hid.out ?_)
      generalize eA : World.setRow _ _ _ = WA
      have HY := Lib.hid (sr_blk HA9.out.1 eA)
      have HT2 := Lib.hid (sr_oth (A := w.heap.size + 1 + 1 + 1 + 1) (by omega) HA9.out.2 eA)
      have HS2 := Lib.hid (sr_snap HS9.out (by decide) HA9.out.1 eA)
      have HW2 := Lib.hid (sr_bel HBW.out (by omega) eA)
      refine Lib.hid ?_
      clear eA
      go_wp2_with (refine wpList_store_row 46 _ _ rfl rfl (w.heap.size + 1 + 1 + 1 + 1 + 1) rfl #[.int .i64 k9, .int .u16 i9] rfl HT2.out info46 rfl (by simp [Value.oneCell']) ?_; refine Hid.out ?_)
      generalize eB : World.setRow _ _ _ = WB
      have HY3 := Lib.hid (sr_oth (A := w.heap.size + 1 + 1 + 1 + 1 + 1) (by omega) HY.out eB)
      have HT3 := Lib.hid (sr_blk HT2.out eB)
      have HS3 := Lib.hid (sr_snap HS2.out (by decide) HT2.out eB)
      have HW3 := Lib.hid (sr_bel HW2.out (by omega) eB)
      refine Lib.hid ?_
      clear eB
      go_wp2_with fail
      refine bodyPost_ret (v := .tuple #[.agg (snC m9 (ramS m9.ram) (.slice q1 m9.st.length d1) (.slice q2 m9.out.length d2)), .agg #[.int .i64 k9, .int .u16 i9]]) (rows_result rfl _ _ (w.heap.size + 1 + 1 + 1 + 1) (w.heap.size + 1 + 1 + 1 + 1 + 1) _ _ 43 46 rfl rfl HY3.out HT3.out Try.underlying43 Try.underlying46 info43 info46) rfl ?_
      exact ⟨_, rfl, Snapped.low ⟨q1, d1, q2, d2, rfl, HS3.out⟩ HSW.out, HW3.out⟩
end Go.Proofs.Ytieaicdihingkaa
