/- The contract of the reference's Drawn. -/
import Derived.Test.YtgdiaaoekkdibaaA1
import Derived.Deep.RegionHeld3
namespace Go.Proofs.Ytgdiaaoekkdibaa
set_option linter.unusedVariables false
set_option linter.unusedSimpArgs false
open Go.RowKit
set_option maxRecDepth 100000 in
set_option maxHeartbeats 20000000 in
theorem drawnD (ps : Option Addr) (cap : Nat) (L : List Int) (w : World) (hl : L.length ≤ 9223372036854775807) (hcase : 30 < L.length)  (hS : IntsAt w ps L) (Rr : Ending → World → Prop) (HR : Hid (∀ e w', DrawnPost w e w' → Rr e w')) :
    Calls Try.prog 16 #[.slice ps L.length cap] w Rr := by
  have hl2 : L.length ≤ maxLen := by unfold maxLen; omega
  obtain ⟨g0, ⟨a0, a1⟩, HA0⟩ := at_var cap 0 0 rfl hS hl2 (by decide)
  obtain ⟨g1, ⟨a2, a3⟩, HA1⟩ := at_var cap 1 1 rfl hS hl2 (by decide)
  obtain ⟨g2, ⟨a4, a5⟩, HA2⟩ := at_var cap 2 2 rfl hS hl2 (by decide)
  obtain ⟨g3, ⟨a6, a7⟩, HA3⟩ := at_var cap 3 3 rfl hS hl2 (by decide)
  obtain ⟨r0, b0, b1, HM0⟩ := mod_var g0 3 ⟨a0, a1⟩ (by decide) (by decide)
  obtain ⟨n0, rfl⟩ : ∃ n : Nat, r0 = n := ⟨r0.toNat, by omega⟩
  obtain ⟨r1, b2, b3, HM1⟩ := mod_var g1 4096 ⟨a2, a3⟩ (by decide) (by decide)
  obtain ⟨r2, b4, b5, HM2⟩ := mod_var g2 4096 ⟨a4, a5⟩ (by decide) (by decide)
  obtain ⟨r3, b6, b7, HM3⟩ := mod_var g3 40 ⟨a6, a7⟩ (by decide) (by decide)
  have KA0 := Lib.hid HA0
  have KA1 := Lib.hid HA1
  have KA2 := Lib.hid HA2
  have KA3 := Lib.hid HA3
  have KM0 := Lib.hid HM0
  have KM1 := Lib.hid HM1
  have KM2 := Lib.hid HM2
  have KM3 := Lib.hid HM3
  have KS := Lib.hid hS
  have KL := Lib.hid hl2
  clear HA0 HA1 HA2 HA3 HM0 HM1 HM2 HM3 a0 a1 a2 a3 a4 a5 a6 a7 hS hl2
  have w1 : IntKind.u16.wrap r1 = r1 := wrap_in _ b2 (by omega)
  have w2 : IntKind.u16.wrap r2 = r2 := wrap_in _ b4 (by omega)
  obtain ⟨i9, hi9, hz9, hs9, hb9⟩ := info_parts infoStr
  obtain ⟨i39, hi39, hz39, hs39, hb39⟩ := info_parts infoObj
  obtain ⟨i41, hi41, hz41, hs41, hb41⟩ := info_parts infoRel
  have hW0 := below1 w (Obj.cells #[Value.slice none 0 0, Value.int IntKind.u16 0, Value.int IntKind.u16 0, Value.slice none 0 0, Value.slice none 0 0] 30)
  have KW0 := Lib.hid hW0
  clear hW0
  go_enter Try.func16, Try.ntmps16
  go_wp2_with fail
  refine (KA0.out _ KW0.out).mono ?_
  rintro e w' ⟨rfl, rfl⟩
  go_wp2_with fail
  refine (KM0.out _).mono ?_
  rintro e w' ⟨rfl, rfl⟩
  go_wp2_with fail
  refine (KA1.out _ KW0.out).mono ?_
  rintro e w' ⟨rfl, rfl⟩
  go_wp2_with fail
  refine (KM1.out _).mono ?_
  rintro e w' ⟨rfl, rfl⟩
  go_wp2_with fail
  refine (KA2.out _ KW0.out).mono ?_
  rintro e w' ⟨rfl, rfl⟩
  go_wp2_with fail
  refine (KM2.out _).mono ?_
  rintro e w' ⟨rfl, rfl⟩
  go_wp2_with fail
  refine (KA3.out _ (below_alloc KW0.out _)).mono ?_
  rintro e w' ⟨rfl, rfl⟩
  go_wp2_with fail
  refine (KM3.out _).mono ?_
  rintro e w' ⟨rfl, rfl⟩
  go_wp2_with fail
  have hst := draw_start (w.alloc (Obj.cells #[Value.slice none 0 0, Value.int IntKind.u16 0, Value.int IntKind.u16 0, Value.slice none 0 0, Value.slice none 0 0] 30)) r1 r2
  have hz0 : (w.alloc (Obj.cells #[Value.slice none 0 0, Value.int IntKind.u16 0, Value.int IntKind.u16 0, Value.slice none 0 0, Value.slice none 0 0] 30)).heap.size = w.heap.size + 1 := by simp
  have hy : Hid (∀ w' : World, Below (w.alloc (Obj.cells #[Value.slice none 0 0, Value.int IntKind.u16 0, Value.int IntKind.u16 0, Value.slice none 0 0, Value.slice none 0 0] 30)).heap.size (w.alloc (Obj.cells #[Value.slice none 0 0, Value.int IntKind.u16 0, Value.int IntKind.u16 0, Value.slice none 0 0, Value.slice none 0 0] 30)) w' → w'.cell? ⟨w.heap.size, 0, none⟩ = some (.slice none 0 0) ∧ w'.cell? ⟨w.heap.size, 1, none⟩ = some (.int .u16 0) ∧ w'.cell? ⟨w.heap.size, 2, none⟩ = some (.int .u16 0) ∧ w'.cell? ⟨w.heap.size, 3, none⟩ = some (.slice none 0 0) ∧ w'.cell? ⟨w.heap.size, 4, none⟩ = some (.slice none 0 0) ∧ w'.frozen? ⟨w.heap.size, 0, none⟩ = false ∧ w'.frozen? ⟨w.heap.size, 1, none⟩ = false ∧ w'.frozen? ⟨w.heap.size, 2, none⟩ = false ∧ w'.frozen? ⟨w.heap.size, 3, none⟩ = false ∧ w'.frozen? ⟨w.heap.size, 4, none⟩ = false) := by
    intro w' h
    have hz : w.heap.size < (w.alloc (Obj.cells #[Value.slice none 0 0, Value.int IntKind.u16 0, Value.int IntKind.u16 0, Value.slice none 0 0, Value.slice none 0 0] 30)).heap.size := by simp
    exact ⟨(h.cell hz).trans (by simp), (h.cell hz).trans (by simp), (h.cell hz).trans (by simp), (h.cell hz).trans (by simp), (h.cell hz).trans (by simp), (h.frozen hz).trans (by simp), (h.frozen hz).trans (by simp), (h.frozen hz).trans (by simp), (h.frozen hz).trans (by simp), (h.frozen hz).trans (by simp)⟩
  rw [hz0] at hst
  clear KA0 KA1 KA2 KA3 KM0 KM1 KM2 KM3 w1 w2
  have HST := Lib.hid hst
  clear hst
  generalize w.alloc (Obj.cells #[Value.slice none 0 0, Value.int IntKind.u16 0, Value.int IntKind.u16 0, Value.slice none 0 0, Value.slice none 0 0] 30) = W0 at *
  have HZ0 := Lib.hid hz0
  rw [hz0] at hy
  clear hz0
  generalize W0.alloc (Obj.cells #[Value.slice none 0 0, Value.int IntKind.u16 r1, Value.int IntKind.u16 r2, Value.slice none 0 0, Value.slice none 0 0] 30) = W2 at *
  go_loopw [5, 6] (fun a i wr => ∃ (k : Nat) (x : Int) (l : List ObjI) (v2 : Value), 4 ≤ k ∧ k ≤ 20 ∧ i = .int .i64 k ∧ a = .int .i64 x ∧ l.length + 4 = k ∧ 16384 ≤ x ∧ x ≤ 16424 + 89 * l.length ∧ RamTo l x ∧ Mk (w.heap.size + 1) (w.heap.size + 1) W0 wr ⟨[], r1, r2, l, []⟩ (.slice none 0 0) v2 (.slice none 0 0)) (fun _ i _ => 20 - (intOf i).toNat)
  case atStart => exact ⟨4, _, [], _, Nat.le_refl _, by decide, rfl, rfl, rfl, by omega, by simp; omega, ramTo_nil _, HST.out⟩
  case round =>
    obtain ⟨k, x, l, v2, k4, k20, rfl, rfl, hlk, x0, x1, hram, hm⟩ := hrel
    have HM := Lib.hid hm
    have HRam := Lib.hid hram
    obtain ⟨i0, i1, i2, i3, i4, f0, f3, f4, o1, o2, o3, _, _, hbw⟩ := hm
    have HBw : Hid (Below w.heap.size w wr) := KW0.out.trans (hbw.mono (by omega))
    clear hbw o1 o2 o3 hram HST
    by_cases hk1 : k < L.length ∧ k < 20
    · obtain ⟨hka, hkb⟩ := hk1
      have hkc : (k : Int) < 20 := by omega
      obtain ⟨z, Bs, off, rfl, ⟨z0, z1⟩, hBs0, hcz⟩ := ints_cell KS.out k hka
      have cz := hcz wr HBw.out
      obtain ⟨m1, c0, c1, HM1⟩ := mod_var z 50 ⟨z0, z1⟩ (by decide) (by decide)
      have hq := tdiv_ok z 50 ⟨z0, z1⟩ (by decide)
      obtain ⟨m2, c2, c3, HM2⟩ := mod_var (z.tdiv 50) 40 hq (by decide) (by decide)
      have hqw : IntKind.i64.wrap (z.tdiv 50) = z.tdiv 50 := IntWalk.i64_in _ ⟨hq.1, hq.2⟩
      have K1 := Lib.hid HM1
      have K2 := Lib.hid HM2
      have u1 : IntKind.u16.wrap x = x := wrap_in _ (by omega) (by omega)
      have u2 : IntKind.u16.wrap (1 + m1) = 1 + m1 := wrap_in _ (by omega) (by omega)
      clear hcz HM1 HM2 hq
      go_wp2_with fail
      refine (K1.out _).mono ?_
      rintro e w' ⟨rfl, rfl⟩
      go_wp2_with fail
      refine (K2.out _).mono ?_
      rintro e w' ⟨rfl, rfl⟩
      have hA := HM.out.next (below1 wr (Obj.cells #[.int .i64 (-1), .int .u16 x, .int .u16 (1 + m1)] 39))
      have HA := Lib.hid hA
      clear hA
      go_wp2_with (at_builtin; refine wpList_append_own _ rfl (.tmp 60) (.tmp 66) 27 rfl (w.heap.size + 1 + 1) 39 i39 (.agg #[.int .i64 0, .int .u16 0, .int .u16 0]) 3 16 Try.underlying27 hi39 hz39 hs39 hb39 rfl (by decide) v2 _ _ rfl HA.out.o2 ⟨wr.heap.size, 0, none⟩ 1 1 (ObjI.cells ⟨-1, x, 1 + m1⟩) rfl rfl (news_obj ⟨-1, x, 1 + m1⟩) (one_obj ⟨-1, x, 1 + m1⟩) (by dsimp only; unfold maxLen; omega) (by dsimp only; omega) (by have := HA.out.hw; omega) ?_)
      intro v' w3 hown hg _
      obtain ⟨p', c', rfl, _⟩ := own_slice hown
      have hC := HA.out.keep hg (fun j hj => (HA.out.o2.lt j hj).1)
      have HP := Lib.hid (HA.out.push2 ⟨-1, x, 1 + m1⟩ hown hg)
      obtain ⟨i0, i1, i2, i3, i4, f0, f3, f4⟩ := hC
      clear hown hg HA
      dsimp only at i1 i2 i3 HP
      go_wp2_with fail
      go_roundw
      case rel =>
        exact ⟨k + 1, x + (1 + m1) + m2, l ++ [⟨-1, x, 1 + m1⟩], _, by omega, by omega, by go_num, by go_num, by simp; omega, by omega, by simp; omega, ramTo_step HRam.out x0 (by omega) (by omega) c2, HP.out⟩
      case measure => simp [intOf]; omega
    · have hx : k < L.length := by omega
      have hx2 : decide ((k : Int) < 20) = false := decide_eq_false (by omega)
      have hkram : L.length ≤ 4 ∨ 1 ≤ l.length := by omega
      obtain ⟨p2, c2, rfl, hp2⟩ := own_slice HM.out.o2
      have hl16 : l.length ≤ 16 := by omega
      have KR := Lib.hid (ready_start (1 + n0) HRam.out (by omega) b2 b3 b4 b5)
      dsimp only at i3 HM
      go_wp2_with fail
      clear i0 i1 i2 i3 i4 f0 f3 f4 hx k4 k20 x0 x1 hlk hk1 HRam HBw
      have hmk := make_run
      go_loopw [10] (fun b wr => ∃ (j : Nat) (I : Img) (v1 v2 v3 : Value), j ≤ 1 + n0 ∧ b = .int .i64 j ∧ Mk (w.heap.size + 1) (w.heap.size + 1) W0 wr I v1 v2 v3 ∧ Ready (1 + n0) j l I ∧ I.data.length ≤ 16 + 4 * j ∧ I.relocs.length ≤ 26 * j) (fun b _ => 1 + n0 - (intOf b).toNat)
      case atStart => exact ⟨0, _, _, _, _, Nat.zero_le _, rfl, HM.out, KR.out, by show l.length ≤ _; omega, Nat.zero_le _⟩
      case round =>
        obtain ⟨j, I, v1, v2, v3, hj, rfl, hm, hrd, hd16, hr26⟩ := hrel
        clear HM KR hp2
        have HM := Lib.hid hm
        have HRd := Lib.hid hrd
        clear hm hrd
        obtain ⟨wo, rfl⟩ : ∃ wo : World, wo = wr := ⟨_, rfl⟩
        by_cases hlt : j < 1 + n0
        · have hjI : (j : Int) < 1 + (n0 : Int) := by omega
          have hA := HM.out.next (below1 wo (Obj.cells zrow 5))
          have hR := rowF_zero wo
          have hNR : w.heap.size + 1 < wo.heap.size := HM.out.hw
          have HA := Lib.hid hA
          have HRow := Lib.hid hR
          clear hA hR
          go_wp2_with fail
          generalize wo.alloc (Obj.cells zrow 5) = W3 at *
          generalize wo.heap.size = R at *
          clear HM
          obtain ⟨gb, ⟨gb0, gb1⟩, HAb⟩ := at_var cap (j : Int) j rfl KS.out KL.out (by omega)
          have KAb := Lib.hid HAb
          clear HAb
          go_loopw [12] (fun i wx => ∃ (k : Nat) (F : Nat → Int), k ≤ 4096 ∧ i = .int .i64 k ∧ Mk (w.heap.size + 1) (w.heap.size + 1) W0 wx I v1 v2 v3 ∧ RowF wx R F ∧ (∀ j, 0 ≤ F j ∧ F j < 256)) (fun i _ => 4096 - (intOf i).toNat)
          case atStart => exact ⟨0, _, Nat.zero_le _, rfl, HA.out, HRow.out, fun _ => ⟨by decide, by decide⟩⟩
          case round =>
            obtain ⟨k, F, hk, rfl, hm, hrow, hF⟩ := hrel
            clear HA HRow
            have HM := Lib.hid hm
            have HRow := Lib.hid hrow
            have HF := Lib.hid hF
            have HBw : Hid (Below w.heap.size w wr) := KW0.out.trans (hm.below.mono (by omega))
            clear hm hF
            by_cases hk4 : k < 4096
            · have hkI : (k : Int) < 4096 := by omega
              have cz := World.rowIs.cell hrow hk4
              have fz := World.rowIs.frozen hrow k
              clear hrow
              go_wp2_with fail
              refine (KAb.out _ HBw.out).mono ?_
              rintro e w' ⟨rfl, rfl⟩
              go_wp2_with fail
              go_roundw
              case rel =>
                trace_state
                exact ⟨k + 1, _, by omega, by go_num, HM.out.setRow HRow.out hNR _ _, rowF_set HRow.out k _, setF_bd HF.out k _ (u8_bd _).1 (u8_bd _).2⟩
              case measure => simp [intOf]; omega
            · obtain rfl : k = 4096 := by omega
              obtain ⟨gc, ⟨gc0, gc1⟩, HAc⟩ := at_var cap ((j : Int) + 1) (j + 1) (by omega) KS.out KL.out (by omega)
              obtain ⟨of0, q1, HMo⟩ := mod_var' gc 20 ⟨gc0, gc1⟩ (by decide) (by decide)
              have KAc := Lib.hid HAc
              have KMo := Lib.hid HMo
              clear HAc HMo hrow
              go_wp2_with fail
              refine (KAc.out _ HBw.out).mono ?_
              rintro e w' ⟨rfl, rfl⟩
              go_wp2_with fail
              refine (KMo.out _).mono ?_
              rintro e w' ⟨rfl, rfl⟩
              go_wp2_with fail
              have HIB := Lib.hid (HRd.out.enter F of0 HF.out)
              clear KAc KMo KAb HF hmk
              obtain ⟨wo2, rfl⟩ : ∃ wo2 : World, wo2 = wr := ⟨_, rfl⟩
              have KW := Lib.hid HBw.out
              go_loopw [13, 14] (fun o i wx => ∃ (k : Nat) (of : Nat) (rl : List RelI) (v3 : Value) (F : Nat → Int), 4 ≤ k ∧ k ≤ 30 ∧ i = .int .i64 k ∧ o = .int .i64 (of : Int) ∧ of + 385 ≤ 101 * k ∧ rl.length + 4 ≤ I.relocs.length + k ∧ Mk (w.heap.size + 1) (w.heap.size + 1) W0 wx { I with relocs := rl } v1 v2 v3 ∧ RowF wx R F ∧ InBank (1 + n0) j l { I with relocs := rl } F of) (fun _ i _ => 30 - (intOf i).toNat)
              case atStart => exact ⟨4, of0, I.relocs, _, F, Nat.le_refl _, by decide, rfl, rfl, by omega, Nat.le_refl _, HM.out, HRow.out, HIB.out⟩
              case round =>
                obtain ⟨k, of, rl, v3, F, k4, k30, rfl, rfl, of1, hrl, hm, hrow, hib⟩ := hrel
                clear HM HRow HIB HBw KW
                have HM := Lib.hid hm
                have HRow := Lib.hid hrow
                have HIB := Lib.hid hib
                have HBw : Hid (Below w.heap.size w wr) := KW0.out.trans (hm.below.mono (by omega))
                by_cases hk1 : k < L.length ∧ k < 30
                · obtain ⟨hka, hkb⟩ := hk1
                  have hkc : (k : Int) < 30 := by omega
                  have hm1 : 1 ≤ l.length := by omega
                  have hm0 : 0 < l.length := by omega
                  obtain ⟨z, Bs, off, rfl, ⟨z0, z1⟩, hBs0, hcz⟩ := ints_cell KS.out k hka
                  obtain ⟨ix, c1, HM1⟩ := mod_var' z l.length ⟨z0, z1⟩ (by omega) (by omega)
                  have hix : ix < l.length := by omega
                  obtain ⟨ob, hob, ob1, oa0, oa1, os0, os1, hhit⟩ := ram_obj hib.drawn ix hix
                  obtain ⟨g2, cp2, rfl, hg2, d0, d1, d2⟩ := obj_cells hm ix ob hob
                  have q7 := tdiv_ok z 7 ⟨z0, z1⟩ (by decide)
                  obtain ⟨dd, c3, HM2⟩ := mod_var' (z.tdiv 7) ob.size q7 (by omega) (by omega)
                  have q3 := tdiv_ok z 3 ⟨z0, z1⟩ (by decide)
                  obtain ⟨gp, c5, HM3⟩ := mod_var' (z.tdiv 3) 100 q3 (by decide) (by decide)
                  have hq7 : IntKind.i64.wrap (z.tdiv 7) = z.tdiv 7 := IntWalk.i64_in _ ⟨q7.1, q7.2⟩
                  have hq3 : IntKind.i64.wrap (z.tdiv 3) = z.tdiv 3 := IntWalk.i64_in _ ⟨q3.1, q3.2⟩
                  have K1 := Lib.hid HM1
                  have K2 := Lib.hid HM2
                  have K3 := Lib.hid HM3
                  have hdl : ix < I.data.length := (List.getElem?_eq_some_iff.1 hob).1
                  have HHit := Lib.hid (hhit dd (by omega) c3)
                  have hBs : Bs < wr.heap.size := by have := HBw.out.size; omega
                  have hzr := hcz wr HBw.out
                  have KCz := Lib.hid hcz
                  clear hcz
                  obtain ⟨i0, i1, i2, i3, i4, f0, f3, f4, _, _, _, _, hNw, _⟩ := hm
                  dsimp only at i3 i4
                  have HA : Hid (∀ w' : World, Below wr.heap.size wr w' → w'.cell? ⟨w.heap.size + 1, 3, none⟩ = some (.slice (some ⟨g2, 0, none⟩) I.data.length cp2) ∧ w'.cell? ⟨Bs, off + k, none⟩ = some (.int .i64 z) ∧ w'.cell? ⟨g2, ix * 3, none⟩ = some (.int .i64 ob.bank) ∧ w'.cell? ⟨g2, ix * 3 + 1, none⟩ = some (.int .u16 ob.addr) ∧ w'.cell? ⟨g2, ix * 3 + 2, none⟩ = some (.int .u16 ob.size) ∧ Below wr.heap.size wr w') :=
                    fun w' hb => ⟨(hb.cell hNw).trans i3, (hb.cell hBs).trans hzr, (hb.cell hg2).trans d0, (hb.cell hg2).trans d1, (hb.cell hg2).trans d2, hb⟩
                  clear HM1 HM2 HM3 q7 q3 hrow hib hob hhit d0 d1 d2 hzr i3
                  have hixI : (ix : Int) < I.data.length := by omega
                  go_wp2_with fail
                  go_region_held3 (fun w' => w'.cell? ⟨w.heap.size + 1, 3, none⟩ = some (.slice (some ⟨g2, 0, none⟩) I.data.length cp2) ∧ w'.cell? ⟨Bs, off + k, none⟩ = some (.int .i64 z) ∧ w'.cell? ⟨g2, ix * 3, none⟩ = some (.int .i64 ob.bank) ∧ w'.cell? ⟨g2, ix * 3 + 1, none⟩ = some (.int .u16 ob.addr) ∧ w'.cell? ⟨g2, ix * 3 + 2, none⟩ = some (.int .u16 ob.size) ∧ Below wr.heap.size wr w')
                    (first
                      | exact HA.out _ (Below.drew (Below.refl _ _))
                      | exact HA.out _ (Below.drew (below_alloc (Below.refl _ _) _))
                      | assumption)
                    (first
                      | (go_at_call 20; refine (K1.out _).mono ?_; rintro e w2 ⟨rfl, rfl⟩))
                  all_goals
                    obtain ⟨i3', hz', e0, e1, e2, hbl⟩ := HA.out _ (Below.drew (below_alloc (Below.refl _ _) (Obj.cells #[Value.int IntKind.i64 (-1), Value.int IntKind.u16 ob.addr, Value.int IntKind.u16 ob.size] 39)))
                    have HM4 := Lib.hid (HM.out.next hbl)
                    have HRow4 := Lib.hid (rowF_next HRow.out hbl)
                    have n0' : (wr.alloc (Obj.cells #[Value.int IntKind.i64 (-1), Value.int IntKind.u16 ob.addr, Value.int IntKind.u16 ob.size] 39)).drew.cell? ⟨wr.heap.size, 1, none⟩ = some (.int .u16 ob.addr) := by simp [go_sem]
                    have n1' : (wr.alloc (Obj.cells #[Value.int IntKind.i64 (-1), Value.int IntKind.u16 ob.addr, Value.int IntKind.u16 ob.size] 39)).drew.cell? ⟨wr.heap.size, 2, none⟩ = some (.int .u16 ob.size) := by simp [go_sem]
                    have wa : IntKind.i64.wrap ob.addr = ob.addr := IntWalk.i64_in _ (by omega)
                    have wb : IntKind.i64.wrap ob.size = ob.size := IntWalk.i64_in _ (by omega)
                    have wc : IntKind.i64.wrap (ob.addr + (dd : Int)) = ob.addr + dd := IntWalk.i64_in _ (by omega)
                    clear HA e0 e1 e2 i3' hbl HM HRow HBw i0 i1 i2 i4 f0 f3 f4
                    generalize (wr.alloc (Obj.cells #[Value.int IntKind.i64 (-1), Value.int IntKind.u16 ob.addr, Value.int IntKind.u16 ob.size] 39)).drew = W5 at *
                    go_wp2_with fail
                    go_quiet ((go_at_call 20; exact Calls.quiet_of_same (K2.out _)))
                    have hb6 : Below W5.heap.size W5 (W5.drewN nq) := below_drewN (Below.refl _ _) _
                    have HM6 := Lib.hid (HM4.out.next hb6)
                    have HRow6 := Lib.hid (rowF_next HRow4.out hb6)
                    clear hb6 HM4 HRow4 wa wb wc n0' n1' hz'
                    generalize W5.drewN nq = W6 at *
                    obtain ⟨V, hV⟩ : ∃ V : Int, ob.addr + (dd : Int) = V := ⟨_, rfl⟩
                    rw [hV] at HHit
                    obtain ⟨hh0, v0, v1⟩ := HHit.out
                    have HHit2 := Lib.hid hh0
                    have hv8 : IntKind.u8.wrap V = V % 256 := IntKind.wrap_u8 _
                    have hv9 : IntKind.u8.wrap (V / 256) = V / 256 := by rw [IntKind.wrap_u8]; omega
                    have hv10 : V.tdiv 256 = V / 256 := Int.tdiv_eq_ediv_of_nonneg v0
                    have hof : (of : Int) < 4096 := by omega
                    have hofn : of < 4096 := by omega
                    have hof2 : (of : Int) + 1 < 4096 := by omega
                    have hofn2 : of + 1 < 4096 := by omega
                    have hoft : ((of : Int) + 1).toNat = of + 1 := by omega
                    have cz := World.rowIs.cell HRow6.out hofn
                    have fz := World.rowIs.frozen HRow6.out of
                    have HM7 := Lib.hid (HM6.out.setRow HRow6.out hNR of (.int .u8 (V % 256)))
                    have HRow7 := Lib.hid (rowF_set HRow6.out of (V % 256))
                    have cz2 := World.rowIs.cell HRow7.out hofn2
                    have fz2 := World.rowIs.frozen HRow7.out (of + 1)
                    have HM8 := Lib.hid (HM7.out.setRow HRow7.out hNR (of + 1) (.int .u8 (V / 256)))
                    have HRow8 := Lib.hid (rowF_set HRow7.out (of + 1) (V / 256))
                    have hRN : ¬ R = w.heap.size + 1 := by omega
                    have hRN2 : ¬ w.heap.size + 1 = R := by omega
                    obtain ⟨i0, i1, i2, i3, i4, f0, f3, f4, _, _, _, _, _, _⟩ := HM6.out
                    have i4w := HM8.out.i4
                    have uf : IntKind.u16.wrap (of : Int) = of := wrap_in _ (by omega) (by omega)
                    have hA := HM8.out.next (below1 _ (Obj.cells #[.int .i64 (j : Int), .int .u16 (of : Int)] 41))
                    have HA := Lib.hid hA
                    have HRow9 := Lib.hid (rowF_next HRow8.out (below1 _ (Obj.cells #[.int .i64 (j : Int), .int .u16 (of : Int)] 41)))
                    have tok : True := trivial
                    clear hh0 HHit HM6 HRow6 HM7 HRow7 hA
                    go_wp2_with (at_builtin; refine wpList_append_own _ rfl (.tmp 154) (.tmp 159) 28 rfl (w.heap.size + 1 + 1) 41 i41 (.agg #[.int .i64 0, .int .u16 0]) 2 16 Try.underlying28 hi41 hz41 hs41 hb41 rfl (by decide) v3 _ _ rfl HA.out.o3 ⟨W6.heap.size, 0, none⟩ 1 1 (RelI.cells ⟨j, of⟩) rfl rfl ?_ (one_rel ⟨j, of⟩) (by dsimp only; unfold maxLen; omega) (by dsimp only; omega) (by have := HA.out.hw; omega) ?_)
                    all_goals first | exact (fun _ _ h => h) | skip
                    intro v' w3 hown hg _
                    obtain ⟨p', c', rfl, _⟩ := own_slice hown
                    have hC := HA.out.keep hg (fun a ha => (HA.out.o3.lt a ha).1)
                    have HP := Lib.hid (HA.out.push3 ⟨j, of⟩ hown hg)
                    have HRowP := Lib.hid (rowF_far (i := 4) (u := .slice p' (rl.length + 1) c') (rowF_grow HRow9.out HA.out.o3 (by decide) hg) hRN)
                    have hib2 := HIB.out.push (gap := (gp : Int)) hlt (by omega) (by omega) HHit2.out v0 v1 (by omega)
                    rw [show V / 256 % 256 = V / 256 from by omega] at hib2
                    have HIB2 := Lib.hid hib2
                    have hBz : Below w.heap.size w (w3.setCell ⟨w.heap.size + 1, 4, none⟩ (.slice p' (rl.length + 1) c')) := KW0.out.trans (HP.out.below.mono (by omega))
                    have czz := KCz.out _ hBz
                    clear hown hg HA HRow9 HM8 HRow8 hib2 hBz i0 i1 i2 i3 i4 f0 f3 f4 i4w cz fz cz2 fz2
                    obtain ⟨i0, i1, i2, i3, i4, f0, f3, f4⟩ := hC
                    go_wp2_with fail
                    refine (K3.out _).mono ?_
                    rintro e w' ⟨rfl, rfl⟩
                    go_wp2_with fail
                    go_roundw
                    case rel =>
                      exact ⟨k + 1, of + 2 + gp, rl ++ [⟨j, of⟩], _, _, by omega, by omega, by go_num, by go_num, by omega, by simp; omega, HP.out, HRowP.out, HIB2.out⟩
                    case measure => simp [intOf]; omega
                · have hx : k < L.length := by omega
                  have hx2 : decide ((k : Int) < 30) = false := decide_eq_false (by omega)
                  have hcv := row_conv wr R F hrow hib.fbd
                  have HIO := Lib.hid (hib.close hlt)
                  obtain ⟨i0, i1, i2, i3, i4, f0, f3, f4, _, _, _, _, hNw, _⟩ := hm
                  have hA := HM.out.next (below1 wr (Obj.cells #[.string (rowS F)] 9))
                  have HA := Lib.hid hA
                  have hbl : I.banks.length ≤ 3 := by have := hib.drawn.count; have : I.banks.length = j := this; omega
                  clear hA hib hrow HRow HIB
                  go_wp2_with (at_builtin; refine wpList_append_own _ rfl (.tmp 172) (.tmp 175) 25 rfl (w.heap.size + 1 + 1) 9 i9 (.string ByteArray.empty) 1 16 Try.underlying25 hi9 hz9 hs9 hb9 rfl (by decide) v1 _ _ rfl HA.out.o1 ⟨wr.heap.size, 0, none⟩ 1 1 [.string (rowS F)] rfl rfl (news_str (rowS F)) (one_str (rowS F)) (by dsimp only; unfold maxLen; omega) (by dsimp only; omega) (by have := HA.out.hw; omega) ?_)
                  intro v' w3 hown hg _
                  obtain ⟨p', c', rfl, _⟩ := own_slice hown
                  have hC := HA.out.keep hg (fun a ha => (HA.out.o1.lt a ha).1)
                  have HP := Lib.hid (HA.out.push1 (rowS F) hown hg)
                  clear hown hg HA i0 i1 i2 i3 i4 f0 f3 f4 hcv
                  obtain ⟨i0, i1, i2, i3, i4, f0, f3, f4⟩ := hC
                  dsimp only at HP HIO
                  generalize rowS F = SF at *
                  go_wp2_with fail
                  clear i0 i1 i2 i3 i4 f0 f3 f4 hx HBw
                  generalize w3.setCell ⟨w.heap.size + 1, 0, none⟩ (.slice p' (I.banks.length + 1) c') = W9 at *
                  generalize Value.slice p' (I.banks.length + 1) c' = V1 at *
                  have hrl2 : rl.length ≤ I.relocs.length + 26 := by omega
                  obtain ⟨wo3, rfl⟩ : ∃ wo3 : World, wo3 = wr := ⟨_, rfl⟩
                  go_loopw [17, 18] (fun e i wx => ∃ (k : Nat) (en : Nat) (dl : List ObjI) (v2 : Value), 20 ≤ k ∧ k ≤ 24 ∧ i = .int .i64 k ∧ e = .int .i64 (en : Int) ∧ en + 1040 ≤ 202 * k ∧ dl.length + 20 ≤ I.data.length + k ∧ Mk (w.heap.size + 1) (w.heap.size + 1) W0 wx { I with relocs := rl, banks := I.banks ++ [SF], data := dl } V1 v2 v3 ∧ InObj (1 + n0) j l { I with relocs := rl, banks := I.banks ++ [SF], data := dl } en) (fun _ i _ => 24 - (intOf i).toNat)
                  case atStart => exact ⟨20, 3000, I.data, _, Nat.le_refl _, by decide, rfl, rfl, by omega, Nat.le_refl _, HP.out, HIO.out⟩
                  case round =>
                    obtain ⟨k, en, dl, v2, k20', k24, rfl, rfl, hen, hdl, hm, hio⟩ := hrel
                    clear HP HIO HM
                    have HM := Lib.hid hm
                    have HIO := Lib.hid hio
                    have HBw : Hid (Below w.heap.size w wr) := KW0.out.trans (hm.below.mono (by omega))
                    by_cases hk1' : k < L.length ∧ k < 24
                    · obtain ⟨hka, hkb⟩ := hk1'
                      have hkc : (k : Int) < 24 := by omega
                      obtain ⟨z, Bs, off, rfl, ⟨z0, z1⟩, hBs0, hcz⟩ := ints_cell KS.out k hka
                      have KCz := Lib.hid hcz
                      have cz := hcz wr HBw.out
                      obtain ⟨m1, c1, HM1⟩ := mod_varN z 200 ⟨z0, z1⟩ (by decide) (by decide)
                      have hq := tdiv_ok z 200 ⟨z0, z1⟩ (by decide)
                      obtain ⟨m2, c3, HM2⟩ := mod_varN (z.tdiv 200) 3 hq (by decide) (by decide)
                      have hqw : IntKind.i64.wrap (z.tdiv 200) = z.tdiv 200 := IntWalk.i64_in _ ⟨hq.1, hq.2⟩
                      have K1 := Lib.hid HM1
                      have K2 := Lib.hid HM2
                      have u1 : IntKind.u16.wrap (en : Int) = en := wrap_in _ (by omega) (by omega)
                      have u2 : IntKind.u16.wrap (1 + (m1 : Int)) = 1 + m1 := wrap_in _ (by omega) (by omega)
                      obtain ⟨i0, i1, i2, i3, i4, f0, f3, f4, _, _, _, _, hNw, _⟩ := hm
                      clear hcz HM1 HM2 hq hio
                      go_wp2_with fail
                      refine (K1.out _).mono ?_
                      rintro e w' ⟨rfl, rfl⟩
                      have hA := HM.out.next (below1 wr (Obj.cells #[.int .i64 (j : Int), .int .u16 (en : Int), .int .u16 (1 + (m1 : Int))] 39))
                      have HA := Lib.hid hA
                      clear hA
                      go_wp2_with (at_builtin; refine wpList_append_own _ rfl (.tmp 195) (.tmp 202) 27 rfl (w.heap.size + 1 + 1) 39 i39 (.agg #[.int .i64 0, .int .u16 0, .int .u16 0]) 3 16 Try.underlying27 hi39 hz39 hs39 hb39 rfl (by decide) v2 _ _ rfl HA.out.o2 ⟨wr.heap.size, 0, none⟩ 1 1 (ObjI.cells ⟨j, en, 1 + m1⟩) rfl rfl (news_obj ⟨j, en, 1 + m1⟩) (one_obj ⟨j, en, 1 + m1⟩) (by dsimp only; unfold maxLen; omega) (by dsimp only; omega) (by have := HA.out.hw; omega) ?_)
                      intro v' w3 hown hg _
                      obtain ⟨p', c', rfl, _⟩ := own_slice hown
                      have hC := HA.out.keep hg (fun a ha => (HA.out.o2.lt a ha).1)
                      have HP := Lib.hid (HA.out.push2 ⟨j, en, 1 + m1⟩ hown hg)
                      have HIO2 := Lib.hid (HIO.out.push (gap := (m2 : Int)) (size := 1 + (m1 : Int)) hlt (by omega) (by omega) (by omega) (by omega) (by omega))
                      have hBz : Below w.heap.size w (w3.setCell ⟨w.heap.size + 1, 3, none⟩ (.slice p' (dl.length + 1) c')) := KW0.out.trans (HP.out.below.mono (by omega))
                      have czz := KCz.out _ hBz
                      clear hown hg HA hBz i0 i1 i2 i3 i4 f0 f3 f4 cz
                      obtain ⟨i0, i1, i2, i3, i4, f0, f3, f4⟩ := hC
                      go_wp2_with fail
                      refine (K2.out _).mono ?_
                      rintro e w' ⟨rfl, rfl⟩
                      go_wp2_with fail
                      go_roundw
                      case rel =>
                        exact ⟨k + 1, en + (1 + m1) + m2, dl ++ [⟨j, en, 1 + m1⟩], _, by omega, by omega, by go_num, by go_num, by omega, by simp; omega, HP.out, by simpa using HIO2.out⟩
                      case measure => simp [intOf]; omega
                    · have hx : k < L.length := by omega
                      have hx2 : decide ((k : Int) < 24) = false := decide_eq_false (by omega)
                      clear hm hio
                      go_wp2_with fail
                      go_roundw
                      case rel =>
                        exact ⟨j + 1, _, _, _, _, by omega, by go_num, HM.out, HIO.out.leave, by show dl.length ≤ _; omega, by show rl.length ≤ _; omega⟩
                      case measure => simp [intOf]; omega
        · obtain rfl : j = 1 + n0 := by omega
          have hge : decide (((1 + n0 : Nat) : Int) < 1 + (n0 : Int)) = false := decide_eq_false (by omega)
          obtain ⟨i0, i1, i2, i3, i4, _, _, _, _, _, _, _, _, hbw⟩ := HM.out
          have hval := HRd.out.valid (by omega) (by omega) (by omega) (by omega)
          obtain ⟨y0, y1, y2, y3, y4, g0', g1', g2', g3', g4'⟩ := hy.out wo hbw
          have HBw : Hid (Below w.heap.size w wo) := KW0.out.trans (hbw.mono (by omega))
          have HL0 := Lib.hid (HM.out.low HBw.out (Nat.le_refl _) (Nat.lt_succ_self _) 0 v1)
          have HL1 := Lib.hid (HL0.out.low HL0.out.below (Nat.le_refl _) (Nat.lt_succ_self _) 1 (.int .u16 I.entry))
          have HL2 := Lib.hid (HL1.out.low HL1.out.below (Nat.le_refl _) (Nat.lt_succ_self _) 2 (.int .u16 I.vector))
          have HL3 := Lib.hid (HL2.out.low HL2.out.below (Nat.le_refl _) (Nat.lt_succ_self _) 3 v2)
          have HL4 := Lib.hid (HL3.out.low HL3.out.below (Nat.le_refl _) (Nat.lt_succ_self _) 4 v3)
          have HVal := Lib.hid hval
          have hs5 := set5 wo w.heap.size v1 (.int .u16 I.entry) (.int .u16 I.vector) v2 v3 _ _ _ _ _ y0 y1 y2 y3 y4
          have HS5 := Lib.hid hs5
          have HBk : Hid (I.banks.length ≤ 3) := by have : I.banks.length = 1 + n0 := HRd.out.drawn.count; show _ ≤ 3; omega
          clear hbw HL0 HL1 HL2 HL3 hval hs5
          obtain ⟨p1, c1, p2, c2, p3, c3, rfl, rfl, rfl, hI⟩ := drawn_img HL4.out HRd.out.drawn (by omega) (by omega) (by omega) (by omega)
          have HI := Lib.hid hI
          clear hI
          go_wp2_with fail
          have HB4 := Lib.hid HL4.out.below
          obtain ⟨q0, q1, q2, q3, q4⟩ := HS5.out
          clear i0 i1 i2 i3 i4 y0 y1 y2 y3 y4 g0' g1' g2' g3' g4' HS5 HL4 HM HBw hmk
          generalize ((((wo.setCell ⟨w.heap.size, 0, none⟩ (Value.slice p1 I.banks.length c1)).setCell ⟨w.heap.size, 1, none⟩ (Value.int IntKind.u16 I.entry)).setCell ⟨w.heap.size, 2, none⟩ (Value.int IntKind.u16 I.vector)).setCell ⟨w.heap.size, 3, none⟩ (Value.slice p2 I.data.length c2)).setCell ⟨w.heap.size, 4, none⟩ (Value.slice p3 I.relocs.length c3) = WF at *
          refine bodyPost_ret (v := .agg #[.slice p1 I.banks.length c1, .int .u16 I.entry, .int .u16 I.vector, .slice p2 I.data.length c2, .slice p3 I.relocs.length c3]) (by simp [results, Try.results16, go_sem, q0, q1, q2, q3, q4]) rfl (HR.out _ _ ⟨I, p1, c1, p2, c2, p3, c3, rfl, HI.out, HVal.out, HBk.out, by omega, by omega, HB4.out⟩)
end Go.Proofs.Ytgdiaaoekkdibaa
