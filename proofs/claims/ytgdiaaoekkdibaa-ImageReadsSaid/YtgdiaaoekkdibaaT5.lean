/- The contract of the reference's Turned: remainders 9. -/
import Derived.Test.YtgdiaaoekkdibaaO0
import Derived.RegionTactic
import Derived.BigQuiet
import Derived.Deep.QuietTactic
namespace Go.Proofs.Ytgdiaaoekkdibaa
set_option linter.unusedVariables false
set_option linter.unusedSimpArgs false
open Go.RowKit
set_option maxRecDepth 100000 in
set_option maxHeartbeats 8000000 in
theorem turned_9 (p1 : Option Addr) (c1 : Nat) (p2 : Option Addr) (c2 : Nat) (p3 : Option Addr) (c3 : Nat) (I : Img) (x y z : Int) (w : World) (hI : ImgAt w p1 p2 p3 I) (hs : ∀ s ∈ I.banks, s.size ≤ 4096) (b1 : I.banks.length ≤ 100000) (b2 : I.data.length ≤ 100000) (b3 : I.relocs.length ≤ 100000) (hx : OkI64 x) (hy : OkI64 y) (hz : OkI64 z) (hm : x % 12 = 9) (Rr : Ending → World → Prop) (HR : Hid (∀ e w', TurnedPost I w e w' → Rr e w')) :
    Calls Try.prog 17 #[imgV p1 c1 p2 c2 p3 c3 I, .agg #[.int .i64 x, .int .i64 y, .int .i64 z]] w Rr := by
  have HIk := Lib.hid (hI.kept (below_alloc (below_alloc (below1 w (Obj.cells #[.slice p1 I.banks.length c1, .int .u16 I.entry, .int .u16 I.vector, .slice p2 I.data.length c2, .slice p3 I.relocs.length c3] 30)) (Obj.cells #[.int .i64 x, .int .i64 y, .int .i64 z] 23)) (Obj.cells #[Value.slice none 0 0, Value.int IntKind.u16 0, Value.int IntKind.u16 0, Value.slice none 0 0, Value.slice none 0 0] 30)))
  obtain ⟨_, ho, hr⟩ := img_parts hI
  have HT := fun (w1 : World) (v1 v2 v3 : Value) hB hO => tmem_start p1 c1 p2 c2 p3 c3 I x y z w w1 v1 v2 v3 hB hO hs ho hr hI.entry hI.vector
  have KT := Lib.hid HT
  have KX := Lib.hid hx
  have KY := Lib.hid hy
  have KZ := Lib.hid hz
  have KE := Lib.hid hI.entry
  have KV := Lib.hid hI.vector
  have KM := Lib.hid hm
  have KS := Lib.hid hs
  have KO := Lib.hid ho
  have KR := Lib.hid hr
  clear hI hs ho hr HT hx hy hz hm
  show Calls Try.prog 17 #[.agg #[.slice p1 I.banks.length c1, .int .u16 I.entry, .int .u16 I.vector, .slice p2 I.data.length c2, .slice p3 I.relocs.length c3], .agg #[.int .i64 x, .int .i64 y, .int .i64 z]] w _
  go_enter Try.func17, Try.ntmps17
  go_wp2_with fail
  refine (own_any p1 c1 p2 c2 p3 c3 I _ HIk.out (by omega) (by omega) (by omega) (OwnPost I _) (fun _ _ h => h)).mono ?_
  rintro e w1 ⟨v1, v2, v3, rfl, hO, hB⟩
  obtain ⟨q1, d1, rfl, _⟩ := own_slice hO.o1
  obtain ⟨q2, d2, rfl, _⟩ := own_slice hO.o2
  obtain ⟨q3, d3, rfl, _⟩ := own_slice hO.o3
  obtain ⟨n0, n1, n2, n3, n4, fz, hT⟩ := KT.out w1 _ _ _ hB hO
  have HT := Lib.hid hT
  have fz0 := fz 0
  have fz1 := fz 1
  have fz2 := fz 2
  have fz3 := fz 3
  have fz4 := fz 4
  obtain ⟨_, _, _, _, _, _, a0, a1, a2, _, _, _, _, _, _, _, _, _, _, _, _⟩ := hT
  clear KT hO hB HIk fz
  go_wp2_with fail
  generalize ((((w1.setCell ⟨w.heap.size, 0, none⟩ (.slice q1 I.banks.length d1)).setCell ⟨w.heap.size, 1, none⟩ (.int .u16 I.entry)).setCell ⟨w.heap.size, 2, none⟩ (.int .u16 I.vector)).setCell ⟨w.heap.size, 3, none⟩ (.slice q2 I.data.length d2)).setCell ⟨w.heap.size, 4, none⟩ (.slice q3 I.relocs.length d3) = W2 at *
  clear n0 n1 n2 n3 n4 fz0 fz1 fz2 fz3 fz4
  have hmod := mod_any x 12 W2 KX.out (by decide) (by decide)
  rw [KM.out] at hmod
  refine hmod.mono ?_
  rintro e w' ⟨rfl, rfl⟩
  clear hmod
  have wz : IntKind.u16.wrap z = z % 65536 := IntKind.wrap_u16 _
  obtain ⟨i0, i1, i2, i3, i4, fi, a0, a1, a2, _, _, _, _, _, _, _, _, _, _, _, _⟩ := HT.out
  have f0 := fi 0
  have f1 := fi 1
  have f2 := fi 2
  have f3 := fi 3
  have f4 := fi 4
  clear fi
  by_cases hb : 0 < I.relocs.length
  · have hd : decide (0 < I.relocs.length) = true := decide_eq_true hb
    obtain ⟨r, hrl, HMr⟩ := mod_var' y I.relocs.length KY.out (by omega) (by omega)
    have hm3 := fun W : World => mod_any x 3 W KX.out (by decide) (by decide)
    rw [show x % 3 = 0 from by have := KM.out; omega] at hm3
    obtain ⟨g, hq3, hg, hgb, hcells, hfr⟩ := own_addr HT.out.o3 hb
    subst hq3
    have hrn : r < I.relocs.length := by omega
    obtain ⟨o, ho⟩ := at_some I.relocs r hrn
    have Kr := Lib.hid HMr
    have K3 := Lib.hid hm3
    have HOb := Lib.hid ho
    obtain ⟨⟨ob0, ob1⟩, ⟨oa0, oa1⟩⟩ := KR.out o (List.mem_of_getElem? ho)
    clear hcells hfr HMr hm3 ho hb
    have hrI : (r : Int) < (I.relocs.length : Int) := by omega
    go_wp2_with fail
    go_quiet ((go_at_call 20; exact Calls.quiet_of_same (Kr.out _)))
    have HT3 := Lib.hid (HT.out.next (below_drewN (Below.refl W2.heap.size W2) nq))
    clear i0 i1 i2 i3 i4 f0 f1 f2 f3 f4 a0 a1 a2
    clear HT
    generalize W2.drewN nq = W3 at *
    obtain ⟨i0, i1, i2, i3, i4, fi, a0, a1, a2, _, _, _, _, _, _, _, _, _, _, _, _⟩ := HT3.out
    obtain ⟨g', hq3, hg', hgb', hcells, hfr⟩ := own_addr HT3.out.o3 (by omega)
    obtain rfl : g = g' := by simpa using hq3
    have e0 := hcells (r * 2) _ (flat_get RelI.cells 2 I.relocs (fun _ => rfl) r 0 o HOb.out (by decide))
    have e1 := hcells (r * 2 + 1) _ (flat_get RelI.cells 2 I.relocs (fun _ => rfl) r 1 o HOb.out (by decide))
    have h0 := hfr (r * 2)
    have h1 := hfr (r * 2 + 1)
    clear hcells hfr hq3 fi
    go_wp2_with fail
    refine (K3.out _).mono ?_
    rintro e w' ⟨rfl, rfl⟩
    obtain ⟨m, hm, HMm⟩ := mod_varN z 8 KZ.out (by decide) (by decide)
    have Km := Lib.hid HMm
    clear HMm
    have wm : IntKind.u16.wrap (m : Int) = m := wrap_in _ (by omega) (by omega)
    go_wp2_with fail
    go_region_with ((go_at_call 20; (with_reducible refine (Km.out _).mono ?_); rintro e w9 ⟨rfl, rfl⟩))
    all_goals
      have hV : OkU16 (IntKind.u16.wrap (IntKind.u16.wrap (o.off + (m : Int)) - 4)) := by rw [IntKind.wrap_u16]; exact ⟨by omega, by omega⟩
      have HT2 : Hid (TMem w (W3.setCell ⟨g, r * 2 + 1, none⟩ (.int .u16 (IntKind.u16.wrap (IntKind.u16.wrap (o.off + (m : Int)) - 4)))).drew { I with relocs := I.relocs.set r ⟨o.bank, (IntKind.u16.wrap (IntKind.u16.wrap (o.off + (m : Int)) - 4))⟩ } _ _ _ x y z) := (HT3.out.setRel r 1 g d3 o ⟨o.bank, (IntKind.u16.wrap (IntKind.u16.wrap (o.off + (m : Int)) - 4))⟩ (.int .u16 (IntKind.u16.wrap (IntKind.u16.wrap (o.off + (m : Int)) - 4))) rfl HOb.out (by decide) rfl ⟨⟨ob0, ob1⟩, hV⟩).next (Below.drew (Below.refl _ _))
      clear hV
      generalize (IntKind.u16.wrap (IntKind.u16.wrap (o.off + (m : Int)) - 4)) = V at *
      generalize (W3.setCell ⟨g, r * 2 + 1, none⟩ (.int .u16 V)).drew = W5 at *
      clear i0 i1 i2 i3 i4 a0 a1 a2 e0 e1 h0 h1
      obtain ⟨WF, hWF, x0, x1, x2, x3, x4, hP⟩ := TMem.out (I := I) HT2.out (by simp) (by simp) (by simp) b1 b2 b3
      obtain ⟨i0, i1, i2, i3, i4, fi, a0, a1, a2, ht, hft, _, _, _, _, _, _, _, _, _, _⟩ := HT2.out
      obtain ⟨u0, t0⟩ := ht 0 (by decide)
      obtain ⟨u1, t1⟩ := ht 1 (by decide)
      obtain ⟨u2, t2⟩ := ht 2 (by decide)
      obtain ⟨u3, t3⟩ := ht 3 (by decide)
      obtain ⟨u4, t4⟩ := ht 4 (by decide)
      have g0 := hft 0
      have g1 := hft 1
      have g2 := hft 2
      have g3 := hft 3
      have g4 := hft 4
      have HWF := Lib.hid hWF
      have HP := Lib.hid hP
      have HX := Lib.hid (And.intro x0 (And.intro x1 (And.intro x2 (And.intro x3 x4))))
      clear ht hft hWF hP x0 x1 x2 x3 x4 fi
      try dsimp only at i0 i1 i2 i3 i4
      go_wp2_with fail
      obtain ⟨x0, x1, x2, x3, x4⟩ := HX.out
      have hWF := HWF.out
      try dsimp only at hWF x0 x1 x2 x3 x4
      rw [← hWF]
      clear hWF HWF
      exact bodyPost_ret (v := .agg #[.slice q1 I.banks.length d1, .int .u16 I.entry, .int .u16 I.vector, .slice q2 I.data.length d2, .slice (some ⟨g, 0, none⟩) I.relocs.length d3]) (by simp [results, Try.results17, go_sem, x0, x1, x2, x3, x4]) rfl (HR.out _ _ HP.out)
  · have hd : decide (0 < I.relocs.length) = false := decide_eq_false hb
    have HT2 := HT
    clear hb
    obtain ⟨WF, hWF, x0, x1, x2, x3, x4, hP⟩ := TMem.out (I := I) HT2.out (by simp) (by simp) (by simp) b1 b2 b3
    obtain ⟨i0, i1, i2, i3, i4, fi, a0, a1, a2, ht, hft, _, _, _, _, _, _, _, _, _, _⟩ := HT2.out
    obtain ⟨u0, t0⟩ := ht 0 (by decide)
    obtain ⟨u1, t1⟩ := ht 1 (by decide)
    obtain ⟨u2, t2⟩ := ht 2 (by decide)
    obtain ⟨u3, t3⟩ := ht 3 (by decide)
    obtain ⟨u4, t4⟩ := ht 4 (by decide)
    have g0 := hft 0
    have g1 := hft 1
    have g2 := hft 2
    have g3 := hft 3
    have g4 := hft 4
    have HWF := Lib.hid hWF
    have HP := Lib.hid hP
    have HX := Lib.hid (And.intro x0 (And.intro x1 (And.intro x2 (And.intro x3 x4))))
    clear ht hft hWF hP x0 x1 x2 x3 x4 fi
    try dsimp only at i0 i1 i2 i3 i4
    go_wp2_with fail
    obtain ⟨x0, x1, x2, x3, x4⟩ := HX.out
    have hWF := HWF.out
    try dsimp only at hWF x0 x1 x2 x3 x4
    rw [← hWF]
    clear hWF HWF
    exact bodyPost_ret (v := .agg #[.slice q1 I.banks.length d1, .int .u16 I.entry, .int .u16 I.vector, .slice q2 I.data.length d2, .slice q3 I.relocs.length d3]) (by simp [results, Try.results17, go_sem, x0, x1, x2, x3, x4]) rfl (HR.out _ _ HP.out)
end Go.Proofs.Ytgdiaaoekkdibaa
namespace Go.Proofs.Ytgdiaaoekkdibaa
set_option linter.unusedVariables false
set_option linter.unusedSimpArgs false
open Go.RowKit
set_option maxRecDepth 100000 in
set_option maxHeartbeats 8000000 in
theorem turned_3 (p1 : Option Addr) (c1 : Nat) (p2 : Option Addr) (c2 : Nat) (p3 : Option Addr) (c3 : Nat) (I : Img) (x y z : Int) (w : World) (hI : ImgAt w p1 p2 p3 I) (hs : ∀ s ∈ I.banks, s.size ≤ 4096) (b1 : I.banks.length ≤ 100000) (b2 : I.data.length ≤ 100000) (b3 : I.relocs.length ≤ 100000) (hx : OkI64 x) (hy : OkI64 y) (hz : OkI64 z) (hm : x % 12 = 3) (Rr : Ending → World → Prop) (HR : Hid (∀ e w', TurnedPost I w e w' → Rr e w')) :
    Calls Try.prog 17 #[imgV p1 c1 p2 c2 p3 c3 I, .agg #[.int .i64 x, .int .i64 y, .int .i64 z]] w Rr := by
  have HIk := Lib.hid (hI.kept (below_alloc (below_alloc (below1 w (Obj.cells #[.slice p1 I.banks.length c1, .int .u16 I.entry, .int .u16 I.vector, .slice p2 I.data.length c2, .slice p3 I.relocs.length c3] 30)) (Obj.cells #[.int .i64 x, .int .i64 y, .int .i64 z] 23)) (Obj.cells #[Value.slice none 0 0, Value.int IntKind.u16 0, Value.int IntKind.u16 0, Value.slice none 0 0, Value.slice none 0 0] 30)))
  obtain ⟨_, ho, hr⟩ := img_parts hI
  have HT := fun (w1 : World) (v1 v2 v3 : Value) hB hO => tmem_start p1 c1 p2 c2 p3 c3 I x y z w w1 v1 v2 v3 hB hO hs ho hr hI.entry hI.vector
  have KT := Lib.hid HT
  have KX := Lib.hid hx
  have KY := Lib.hid hy
  have KZ := Lib.hid hz
  have KE := Lib.hid hI.entry
  have KV := Lib.hid hI.vector
  have KM := Lib.hid hm
  have KS := Lib.hid hs
  have KO := Lib.hid ho
  have KR := Lib.hid hr
  clear hI hs ho hr HT hx hy hz hm
  show Calls Try.prog 17 #[.agg #[.slice p1 I.banks.length c1, .int .u16 I.entry, .int .u16 I.vector, .slice p2 I.data.length c2, .slice p3 I.relocs.length c3], .agg #[.int .i64 x, .int .i64 y, .int .i64 z]] w _
  go_enter Try.func17, Try.ntmps17
  go_wp2_with fail
  refine (own_any p1 c1 p2 c2 p3 c3 I _ HIk.out (by omega) (by omega) (by omega) (OwnPost I _) (fun _ _ h => h)).mono ?_
  rintro e w1 ⟨v1, v2, v3, rfl, hO, hB⟩
  obtain ⟨q1, d1, rfl, _⟩ := own_slice hO.o1
  obtain ⟨q2, d2, rfl, _⟩ := own_slice hO.o2
  obtain ⟨q3, d3, rfl, _⟩ := own_slice hO.o3
  obtain ⟨n0, n1, n2, n3, n4, fz, hT⟩ := KT.out w1 _ _ _ hB hO
  have HT := Lib.hid hT
  have fz0 := fz 0
  have fz1 := fz 1
  have fz2 := fz 2
  have fz3 := fz 3
  have fz4 := fz 4
  obtain ⟨_, _, _, _, _, _, a0, a1, a2, _, _, _, _, _, _, _, _, _, _, _, _⟩ := hT
  clear KT hO hB HIk fz
  go_wp2_with fail
  generalize ((((w1.setCell ⟨w.heap.size, 0, none⟩ (.slice q1 I.banks.length d1)).setCell ⟨w.heap.size, 1, none⟩ (.int .u16 I.entry)).setCell ⟨w.heap.size, 2, none⟩ (.int .u16 I.vector)).setCell ⟨w.heap.size, 3, none⟩ (.slice q2 I.data.length d2)).setCell ⟨w.heap.size, 4, none⟩ (.slice q3 I.relocs.length d3) = W2 at *
  clear n0 n1 n2 n3 n4 fz0 fz1 fz2 fz3 fz4
  have hmod := mod_any x 12 W2 KX.out (by decide) (by decide)
  rw [KM.out] at hmod
  refine hmod.mono ?_
  rintro e w' ⟨rfl, rfl⟩
  clear hmod
  have wz : IntKind.u16.wrap z = z % 65536 := IntKind.wrap_u16 _
  obtain ⟨i0, i1, i2, i3, i4, fi, a0, a1, a2, _, _, _, _, _, _, _, _, _, _, _, _⟩ := HT.out
  have f0 := fi 0
  have f1 := fi 1
  have f2 := fi 2
  have f3 := fi 3
  have f4 := fi 4
  clear fi
  obtain ⟨r, hr, HMr⟩ := mod_varN y (max (I.banks.length : Int) 1) KY.out (by omega) (by omega)
  have Kr := Lib.hid HMr
  clear HMr
  by_cases hb : 0 < I.banks.length
  · have hd : decide (0 < I.banks.length) = true := decide_eq_true hb
    have hrn : r < I.banks.length := by omega
    obtain ⟨g, hq1, hg, hgb, hcells, hfr⟩ := own_addr HT.out.o1 hb
    subst hq1
    obtain ⟨s, hs⟩ := at_some I.banks r hrn
    have e0 := hcells r (.string s) (by rw [List.getElem?_map, hs]; rfl)
    have h0 := hfr r
    have Hs := Lib.hid hs
    have hsz := KS.out s (List.mem_of_getElem? hs)
    obtain ⟨m, hm, HMm⟩ := mod_var' z 4097 KZ.out (by decide) (by decide)
    have Km := Lib.hid HMm
    obtain ⟨T, hT⟩ : ∃ T : Nat, T = m % (s.size + 1) := ⟨_, rfl⟩
    have hTl : T ≤ s.size := by rw [hT]; have := Nat.mod_lt m (show 0 < s.size + 1 by omega); omega
    have hT1 : ((m : Int)).tmod ((s.size : Int) + 1) = (T : Int) := by
      rw [Int.tmod_eq_emod_of_nonneg (by omega), hT]; rfl
    have hT2 : ((m : Int)) % ((s.size : Int) + 1) = (T : Int) := by rw [hT]; rfl
    have hT3 : IntKind.i64.wrap (T : Int) = T := IntWalk.i64_in _ (by omega)
    have hT4 : (T : Int) ≤ s.size := by omega
    have hs1 : IntKind.i64.wrap ((s.size : Int) + 1) = (s.size : Int) + 1 := IntWalk.i64_in _ (by omega)
    have hs0 : ¬ ((s.size : Int) + 1 = 0) := by omega
    have hrI : (r : Int) < (I.banks.length : Int) := by omega
    clear hT hcells hfr HMm hb hs
    go_wp2_with fail
    refine (Kr.out _).mono ?_
    rintro e w' ⟨rfl, rfl⟩
    have HT4 := Lib.hid (HT.out.next (Below.drew (Below.refl W2.heap.size W2)))
    go_wp2_with fail
    go_still_tail 21, (by kernel_rfl)
    still_call (Km.out _)
    repeat still_step
    refine wpStill_nil ?_
    change wpList _ _ _ _ _ W2.drew
    clear i0 i1 i2 i3 i4 f0 f1 f2 f3 f4 a0 a1 a2 e0 h0 hT1 hT2 hT3 hs1 hs0
    clear HT
    generalize W2.drew = W4 at *
    have HT2 : Hid (TMem w (W4.setCell ⟨g, r, none⟩ (.string (s.extract 0 T))) { I with banks := I.banks.set r (s.extract 0 T) } _ _ _ x y z) := HT4.out.setStr r g d1 (s.extract 0 T) rfl hrn (by rw [ByteArray.size_extract]; omega)
    obtain ⟨g', hq1, hg', hgb', hcells, hfr⟩ := own_addr HT4.out.o1 (by omega)
    obtain rfl : g = g' := by simpa using hq1
    have k0 := hcells r (.string s) (by rw [List.getElem?_map, Hs.out]; rfl)
    have l0 := hfr r
    clear hcells hfr hq1 HT4
    generalize s.extract 0 T = S5 at *
    obtain ⟨WF, hWF, x0, x1, x2, x3, x4, hP⟩ := TMem.out (I := I) HT2.out (by simp) (by simp) (by simp) b1 b2 b3
    obtain ⟨i0, i1, i2, i3, i4, fi, a0, a1, a2, ht, hft, _, _, _, _, _, _, _, _, _, _⟩ := HT2.out
    obtain ⟨u0, t0⟩ := ht 0 (by decide)
    obtain ⟨u1, t1⟩ := ht 1 (by decide)
    obtain ⟨u2, t2⟩ := ht 2 (by decide)
    obtain ⟨u3, t3⟩ := ht 3 (by decide)
    obtain ⟨u4, t4⟩ := ht 4 (by decide)
    have g0 := hft 0
    have g1 := hft 1
    have g2 := hft 2
    have g3 := hft 3
    have g4 := hft 4
    have HWF := Lib.hid hWF
    have HP := Lib.hid hP
    have HX := Lib.hid (And.intro x0 (And.intro x1 (And.intro x2 (And.intro x3 x4))))
    clear ht hft hWF hP x0 x1 x2 x3 x4 fi
    try dsimp only at i0 i1 i2 i3 i4
    go_wp2_with fail
    obtain ⟨x0, x1, x2, x3, x4⟩ := HX.out
    have hWF := HWF.out
    try dsimp only at hWF x0 x1 x2 x3 x4
    rw [← hWF]
    clear hWF HWF
    exact bodyPost_ret (v := .agg #[.slice (some ⟨g, 0, none⟩) I.banks.length d1, .int .u16 I.entry, .int .u16 I.vector, .slice q2 I.data.length d2, .slice q3 I.relocs.length d3]) (by simp [results, Try.results17, go_sem, x0, x1, x2, x3, x4]) rfl (HR.out _ _ HP.out)
  · have hd : decide (0 < I.banks.length) = false := decide_eq_false hb
    have HT2 := HT
    clear hb
    go_wp2_with fail
    refine (Kr.out _).mono ?_
    rintro e w' ⟨rfl, rfl⟩
    obtain ⟨WF, hWF, x0, x1, x2, x3, x4, hP⟩ := TMem.out (I := I) HT2.out (by simp) (by simp) (by simp) b1 b2 b3
    obtain ⟨i0, i1, i2, i3, i4, fi, a0, a1, a2, ht, hft, _, _, _, _, _, _, _, _, _, _⟩ := HT2.out
    obtain ⟨u0, t0⟩ := ht 0 (by decide)
    obtain ⟨u1, t1⟩ := ht 1 (by decide)
    obtain ⟨u2, t2⟩ := ht 2 (by decide)
    obtain ⟨u3, t3⟩ := ht 3 (by decide)
    obtain ⟨u4, t4⟩ := ht 4 (by decide)
    have g0 := hft 0
    have g1 := hft 1
    have g2 := hft 2
    have g3 := hft 3
    have g4 := hft 4
    have HWF := Lib.hid hWF
    have HP := Lib.hid hP
    have HX := Lib.hid (And.intro x0 (And.intro x1 (And.intro x2 (And.intro x3 x4))))
    clear ht hft hWF hP x0 x1 x2 x3 x4 fi
    try dsimp only at i0 i1 i2 i3 i4
    go_wp2_with fail
    obtain ⟨x0, x1, x2, x3, x4⟩ := HX.out
    have hWF := HWF.out
    try dsimp only at hWF x0 x1 x2 x3 x4
    rw [← hWF]
    clear hWF HWF
    exact bodyPost_ret (v := .agg #[.slice q1 I.banks.length d1, .int .u16 I.entry, .int .u16 I.vector, .slice q2 I.data.length d2, .slice q3 I.relocs.length d3]) (by simp [results, Try.results17, go_sem, x0, x1, x2, x3, x4]) rfl (HR.out _ _ HP.out)
end Go.Proofs.Ytgdiaaoekkdibaa
