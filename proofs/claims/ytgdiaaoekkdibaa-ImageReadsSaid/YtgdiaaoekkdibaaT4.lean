/- The contract of the reference's Turned: remainders 8,10. -/
import Derived.Test.YtgdiaaoekkdibaaO0
import Derived.RegionTactic
import Derived.BigQuiet
import Derived.Deep.QuietTactic
namespace Go.Proofs.Ytgdiaaoekkdibaa
set_option linter.unusedVariables false
set_option linter.unusedSimpArgs false
open Go.RowKit
set_option maxRecDepth 100000 in
set_option maxHeartbeats 8000000 in
theorem turned_8 (p1 : Option Addr) (c1 : Nat) (p2 : Option Addr) (c2 : Nat) (p3 : Option Addr) (c3 : Nat) (I : Img) (x y z : Int) (w : World) (hI : ImgAt w p1 p2 p3 I) (hs : ∀ s ∈ I.banks, s.size ≤ 4096) (b1 : I.banks.length ≤ 100000) (b2 : I.data.length ≤ 100000) (b3 : I.relocs.length ≤ 100000) (hx : OkI64 x) (hy : OkI64 y) (hz : OkI64 z) (hm : x % 12 = 8) (Rr : Ending → World → Prop) (HR : Hid (∀ e w', TurnedPost I w e w' → Rr e w')) :
    Calls Try.prog 17 #[imgV p1 c1 p2 c2 p3 c3 I, .agg #[.int .i64 x, .int .i64 y, .int .i64 z]] w Rr := by
  have HIk := Lib.hid (hI.kept (below_alloc (below_alloc (below1 w (Obj.cells #[.slice p1 I.banks.length c1, .int .u16 I.entry, .int .u16 I.vector, .slice p2 I.data.length c2, .slice p3 I.relocs.length c3] 30)) (Obj.cells #[.int .i64 x, .int .i64 y, .int .i64 z] 23)) (Obj.cells #[Value.slice none 0 0, Value.int IntKind.u16 0, Value.int IntKind.u16 0, Value.slice none 0 0, Value.slice none 0 0] 30)))
  obtain ⟨_, ho, hr⟩ := img_parts hI
  have HT := fun (w1 : World) (v1 v2 v3 : Value) hB hO => tmem_start p1 c1 p2 c2 p3 c3 I x y z w w1 v1 v2 v3 hB hO hs ho hr hI.entry hI.vector
  have KT := Lib.hid HT
  have KX := Lib.hid hx
  have KY := Lib.hid hy
  have KZ := Lib.hid hz
  have KE := Lib.hid hI.entry
  have KV := Lib.hid hI.vector
  have KM := Lib.hid hm
  have KS := Lib.hid hs
  have KO := Lib.hid ho
  have KR := Lib.hid hr
  clear hI hs ho hr HT hx hy hz hm
  show Calls Try.prog 17 #[.agg #[.slice p1 I.banks.length c1, .int .u16 I.entry, .int .u16 I.vector, .slice p2 I.data.length c2, .slice p3 I.relocs.length c3], .agg #[.int .i64 x, .int .i64 y, .int .i64 z]] w _
  go_enter Try.func17, Try.ntmps17
  go_wp2_with fail
  refine (own_any p1 c1 p2 c2 p3 c3 I _ HIk.out (by omega) (by omega) (by omega) (OwnPost I _) (fun _ _ h => h)).mono ?_
  rintro e w1 ⟨v1, v2, v3, rfl, hO, hB⟩
  obtain ⟨q1, d1, rfl, _⟩ := own_slice hO.o1
  obtain ⟨q2, d2, rfl, _⟩ := own_slice hO.o2
  obtain ⟨q3, d3, rfl, _⟩ := own_slice hO.o3
  obtain ⟨n0, n1, n2, n3, n4, fz, hT⟩ := KT.out w1 _ _ _ hB hO
  have HT := Lib.hid hT
  have fz0 := fz 0
  have fz1 := fz 1
  have fz2 := fz 2
  have fz3 := fz 3
  have fz4 := fz 4
  obtain ⟨_, _, _, _, _, _, a0, a1, a2, _, _, _, _, _, _, _, _, _, _, _, _⟩ := hT
  clear KT hO hB HIk fz
  go_wp2_with fail
  generalize ((((w1.setCell ⟨w.heap.size, 0, none⟩ (.slice q1 I.banks.length d1)).setCell ⟨w.heap.size, 1, none⟩ (.int .u16 I.entry)).setCell ⟨w.heap.size, 2, none⟩ (.int .u16 I.vector)).setCell ⟨w.heap.size, 3, none⟩ (.slice q2 I.data.length d2)).setCell ⟨w.heap.size, 4, none⟩ (.slice q3 I.relocs.length d3) = W2 at *
  clear n0 n1 n2 n3 n4 fz0 fz1 fz2 fz3 fz4
  have hmod := mod_any x 12 W2 KX.out (by decide) (by decide)
  rw [KM.out] at hmod
  refine hmod.mono ?_
  rintro e w' ⟨rfl, rfl⟩
  clear hmod
  have wz : IntKind.u16.wrap z = z % 65536 := IntKind.wrap_u16 _
  obtain ⟨i0, i1, i2, i3, i4, fi, a0, a1, a2, _, _, _, _, _, _, _, _, _, _, _, _⟩ := HT.out
  have f0 := fi 0
  have f1 := fi 1
  have f2 := fi 2
  have f3 := fi 3
  have f4 := fi 4
  clear fi
  by_cases hb : 0 < I.relocs.length
  · have hd : decide (0 < I.relocs.length) = true := decide_eq_true hb
    obtain ⟨r, hrl, HMr⟩ := mod_var' y I.relocs.length KY.out (by omega) (by omega)
    have hm3 := fun W : World => mod_any x 3 W KX.out (by decide) (by decide)
    rw [show x % 3 = 2 from by have := KM.out; omega] at hm3
    obtain ⟨g, hq3, hg, hgb, hcells, hfr⟩ := own_addr HT.out.o3 hb
    subst hq3
    have hrn : r < I.relocs.length := by omega
    obtain ⟨o, ho⟩ := at_some I.relocs r hrn
    have Kr := Lib.hid HMr
    have K3 := Lib.hid hm3
    have HOb := Lib.hid ho
    obtain ⟨⟨ob0, ob1⟩, ⟨oa0, oa1⟩⟩ := KR.out o (List.mem_of_getElem? ho)
    clear hcells hfr HMr hm3 ho hb
    have hrI : (r : Int) < (I.relocs.length : Int) := by omega
    go_wp2_with fail
    go_quiet ((go_at_call 20; exact Calls.quiet_of_same (Kr.out _)))
    have HT3 := Lib.hid (HT.out.next (below_drewN (Below.refl W2.heap.size W2) nq))
    clear i0 i1 i2 i3 i4 f0 f1 f2 f3 f4 a0 a1 a2
    clear HT
    generalize W2.drewN nq = W3 at *
    obtain ⟨i0, i1, i2, i3, i4, fi, a0, a1, a2, _, _, _, _, _, _, _, _, _, _, _, _⟩ := HT3.out
    obtain ⟨g', hq3, hg', hgb', hcells, hfr⟩ := own_addr HT3.out.o3 (by omega)
    obtain rfl : g = g' := by simpa using hq3
    have e0 := hcells (r * 2) _ (flat_get RelI.cells 2 I.relocs (fun _ => rfl) r 0 o HOb.out (by decide))
    have e1 := hcells (r * 2 + 1) _ (flat_get RelI.cells 2 I.relocs (fun _ => rfl) r 1 o HOb.out (by decide))
    have h0 := hfr (r * 2)
    have h1 := hfr (r * 2 + 1)
    clear hcells hfr hq3 fi
    go_wp2_with fail
    refine (K3.out _).mono ?_
    rintro e w' ⟨rfl, rfl⟩
    obtain ⟨m, hm, HMm⟩ := mod_varN z 8 KZ.out (by decide) (by decide)
    have Km := Lib.hid HMm
    clear HMm
    have wm : IntKind.u16.wrap (m : Int) = m := wrap_in _ (by omega) (by omega)
    have wm2 : IntKind.u16.wrap (4090 + (m : Int)) = 4090 + m := wrap_in _ (by omega) (by omega)
    go_wp2_with fail
    refine (Km.out _).mono ?_
    rintro e w' ⟨rfl, rfl⟩
    have HT2 : Hid (TMem w (W3.setCell ⟨g, r * 2 + 1, none⟩ (.int .u16 (4090 + (m : Int)))) { I with relocs := I.relocs.set r ⟨o.bank, 4090 + (m : Int)⟩ } _ _ _ x y z) := HT3.out.setRel r 1 g d3 o ⟨o.bank, 4090 + (m : Int)⟩ (.int .u16 (4090 + (m : Int))) rfl HOb.out (by decide) rfl ⟨⟨ob0, ob1⟩, ⟨by show 0 ≤ 4090 + (m : Int); omega, by show 4090 + (m : Int) < 65536; omega⟩⟩
    obtain ⟨WF, hWF, x0, x1, x2, x3, x4, hP⟩ := TMem.out (I := I) HT2.out (by simp) (by simp) (by simp) b1 b2 b3
    obtain ⟨i0, i1, i2, i3, i4, fi, a0, a1, a2, ht, hft, _, _, _, _, _, _, _, _, _, _⟩ := HT2.out
    obtain ⟨u0, t0⟩ := ht 0 (by decide)
    obtain ⟨u1, t1⟩ := ht 1 (by decide)
    obtain ⟨u2, t2⟩ := ht 2 (by decide)
    obtain ⟨u3, t3⟩ := ht 3 (by decide)
    obtain ⟨u4, t4⟩ := ht 4 (by decide)
    have g0 := hft 0
    have g1 := hft 1
    have g2 := hft 2
    have g3 := hft 3
    have g4 := hft 4
    have HWF := Lib.hid hWF
    have HP := Lib.hid hP
    have HX := Lib.hid (And.intro x0 (And.intro x1 (And.intro x2 (And.intro x3 x4))))
    clear ht hft hWF hP x0 x1 x2 x3 x4 fi
    try dsimp only at i0 i1 i2 i3 i4
    go_wp2_with fail
    obtain ⟨x0, x1, x2, x3, x4⟩ := HX.out
    have hWF := HWF.out
    try dsimp only at hWF x0 x1 x2 x3 x4
    rw [← hWF]
    clear hWF HWF
    exact bodyPost_ret (v := .agg #[.slice q1 I.banks.length d1, .int .u16 I.entry, .int .u16 I.vector, .slice q2 I.data.length d2, .slice (some ⟨g, 0, none⟩) I.relocs.length d3]) (by simp [results, Try.results17, go_sem, x0, x1, x2, x3, x4]) rfl (HR.out _ _ HP.out)
  · have hd : decide (0 < I.relocs.length) = false := decide_eq_false hb
    have HT2 := HT
    clear hb
    obtain ⟨WF, hWF, x0, x1, x2, x3, x4, hP⟩ := TMem.out (I := I) HT2.out (by simp) (by simp) (by simp) b1 b2 b3
    obtain ⟨i0, i1, i2, i3, i4, fi, a0, a1, a2, ht, hft, _, _, _, _, _, _, _, _, _, _⟩ := HT2.out
    obtain ⟨u0, t0⟩ := ht 0 (by decide)
    obtain ⟨u1, t1⟩ := ht 1 (by decide)
    obtain ⟨u2, t2⟩ := ht 2 (by decide)
    obtain ⟨u3, t3⟩ := ht 3 (by decide)
    obtain ⟨u4, t4⟩ := ht 4 (by decide)
    have g0 := hft 0
    have g1 := hft 1
    have g2 := hft 2
    have g3 := hft 3
    have g4 := hft 4
    have HWF := Lib.hid hWF
    have HP := Lib.hid hP
    have HX := Lib.hid (And.intro x0 (And.intro x1 (And.intro x2 (And.intro x3 x4))))
    clear ht hft hWF hP x0 x1 x2 x3 x4 fi
    try dsimp only at i0 i1 i2 i3 i4
    go_wp2_with fail
    obtain ⟨x0, x1, x2, x3, x4⟩ := HX.out
    have hWF := HWF.out
    try dsimp only at hWF x0 x1 x2 x3 x4
    rw [← hWF]
    clear hWF HWF
    exact bodyPost_ret (v := .agg #[.slice q1 I.banks.length d1, .int .u16 I.entry, .int .u16 I.vector, .slice q2 I.data.length d2, .slice q3 I.relocs.length d3]) (by simp [results, Try.results17, go_sem, x0, x1, x2, x3, x4]) rfl (HR.out _ _ HP.out)
set_option maxRecDepth 100000 in
set_option maxHeartbeats 8000000 in
theorem turned_10 (p1 : Option Addr) (c1 : Nat) (p2 : Option Addr) (c2 : Nat) (p3 : Option Addr) (c3 : Nat) (I : Img) (x y z : Int) (w : World) (hI : ImgAt w p1 p2 p3 I) (hs : ∀ s ∈ I.banks, s.size ≤ 4096) (b1 : I.banks.length ≤ 100000) (b2 : I.data.length ≤ 100000) (b3 : I.relocs.length ≤ 100000) (hx : OkI64 x) (hy : OkI64 y) (hz : OkI64 z) (hm : x % 12 = 10) (Rr : Ending → World → Prop) (HR : Hid (∀ e w', TurnedPost I w e w' → Rr e w')) :
    Calls Try.prog 17 #[imgV p1 c1 p2 c2 p3 c3 I, .agg #[.int .i64 x, .int .i64 y, .int .i64 z]] w Rr := by
  have HIk := Lib.hid (hI.kept (below_alloc (below_alloc (below1 w (Obj.cells #[.slice p1 I.banks.length c1, .int .u16 I.entry, .int .u16 I.vector, .slice p2 I.data.length c2, .slice p3 I.relocs.length c3] 30)) (Obj.cells #[.int .i64 x, .int .i64 y, .int .i64 z] 23)) (Obj.cells #[Value.slice none 0 0, Value.int IntKind.u16 0, Value.int IntKind.u16 0, Value.slice none 0 0, Value.slice none 0 0] 30)))
  obtain ⟨_, ho, hr⟩ := img_parts hI
  have HT := fun (w1 : World) (v1 v2 v3 : Value) hB hO => tmem_start p1 c1 p2 c2 p3 c3 I x y z w w1 v1 v2 v3 hB hO hs ho hr hI.entry hI.vector
  have KT := Lib.hid HT
  have KX := Lib.hid hx
  have KY := Lib.hid hy
  have KZ := Lib.hid hz
  have KE := Lib.hid hI.entry
  have KV := Lib.hid hI.vector
  have KM := Lib.hid hm
  have KS := Lib.hid hs
  have KO := Lib.hid ho
  have KR := Lib.hid hr
  clear hI hs ho hr HT hx hy hz hm
  show Calls Try.prog 17 #[.agg #[.slice p1 I.banks.length c1, .int .u16 I.entry, .int .u16 I.vector, .slice p2 I.data.length c2, .slice p3 I.relocs.length c3], .agg #[.int .i64 x, .int .i64 y, .int .i64 z]] w _
  go_enter Try.func17, Try.ntmps17
  go_wp2_with fail
  refine (own_any p1 c1 p2 c2 p3 c3 I _ HIk.out (by omega) (by omega) (by omega) (OwnPost I _) (fun _ _ h => h)).mono ?_
  rintro e w1 ⟨v1, v2, v3, rfl, hO, hB⟩
  obtain ⟨q1, d1, rfl, _⟩ := own_slice hO.o1
  obtain ⟨q2, d2, rfl, _⟩ := own_slice hO.o2
  obtain ⟨q3, d3, rfl, _⟩ := own_slice hO.o3
  obtain ⟨n0, n1, n2, n3, n4, fz, hT⟩ := KT.out w1 _ _ _ hB hO
  have HT := Lib.hid hT
  have fz0 := fz 0
  have fz1 := fz 1
  have fz2 := fz 2
  have fz3 := fz 3
  have fz4 := fz 4
  obtain ⟨_, _, _, _, _, _, a0, a1, a2, _, _, _, _, _, _, _, _, _, _, _, _⟩ := hT
  clear KT hO hB HIk fz
  go_wp2_with fail
  generalize ((((w1.setCell ⟨w.heap.size, 0, none⟩ (.slice q1 I.banks.length d1)).setCell ⟨w.heap.size, 1, none⟩ (.int .u16 I.entry)).setCell ⟨w.heap.size, 2, none⟩ (.int .u16 I.vector)).setCell ⟨w.heap.size, 3, none⟩ (.slice q2 I.data.length d2)).setCell ⟨w.heap.size, 4, none⟩ (.slice q3 I.relocs.length d3) = W2 at *
  clear n0 n1 n2 n3 n4 fz0 fz1 fz2 fz3 fz4
  have hmod := mod_any x 12 W2 KX.out (by decide) (by decide)
  rw [KM.out] at hmod
  refine hmod.mono ?_
  rintro e w' ⟨rfl, rfl⟩
  clear hmod
  have wz : IntKind.u16.wrap z = z % 65536 := IntKind.wrap_u16 _
  obtain ⟨i0, i1, i2, i3, i4, fi, a0, a1, a2, _, _, _, _, _, _, _, _, _, _, _, _⟩ := HT.out
  have f0 := fi 0
  have f1 := fi 1
  have f2 := fi 2
  have f3 := fi 3
  have f4 := fi 4
  clear fi
  by_cases hb : 0 < I.relocs.length
  · have hd : decide (0 < I.relocs.length) = true := decide_eq_true hb
    obtain ⟨r, hrl, HMr⟩ := mod_var' y I.relocs.length KY.out (by omega) (by omega)
    have hm3 := fun W : World => mod_any x 3 W KX.out (by decide) (by decide)
    rw [show x % 3 = 1 from by have := KM.out; omega] at hm3
    obtain ⟨g, hq3, hg, hgb, hcells, hfr⟩ := own_addr HT.out.o3 hb
    subst hq3
    have hrn : r < I.relocs.length := by omega
    obtain ⟨o, ho⟩ := at_some I.relocs r hrn
    have Kr := Lib.hid HMr
    have K3 := Lib.hid hm3
    have HOb := Lib.hid ho
    obtain ⟨⟨ob0, ob1⟩, ⟨oa0, oa1⟩⟩ := KR.out o (List.mem_of_getElem? ho)
    clear hcells hfr HMr hm3 ho hb
    have hrI : (r : Int) < (I.relocs.length : Int) := by omega
    go_wp2_with fail
    go_quiet ((go_at_call 20; exact Calls.quiet_of_same (Kr.out _)))
    have HT3 := Lib.hid (HT.out.next (below_drewN (Below.refl W2.heap.size W2) nq))
    clear i0 i1 i2 i3 i4 f0 f1 f2 f3 f4 a0 a1 a2
    clear HT
    generalize W2.drewN nq = W3 at *
    obtain ⟨i0, i1, i2, i3, i4, fi, a0, a1, a2, _, _, _, _, _, _, _, _, _, _, _, _⟩ := HT3.out
    obtain ⟨g', hq3, hg', hgb', hcells, hfr⟩ := own_addr HT3.out.o3 (by omega)
    obtain rfl : g = g' := by simpa using hq3
    have e0 := hcells (r * 2) _ (flat_get RelI.cells 2 I.relocs (fun _ => rfl) r 0 o HOb.out (by decide))
    have e1 := hcells (r * 2 + 1) _ (flat_get RelI.cells 2 I.relocs (fun _ => rfl) r 1 o HOb.out (by decide))
    have h0 := hfr (r * 2)
    have h1 := hfr (r * 2 + 1)
    clear hcells hfr hq3 fi
    go_wp2_with fail
    refine (K3.out _).mono ?_
    rintro e w' ⟨rfl, rfl⟩
    obtain ⟨m, hm, HMm⟩ := mod_varN z 5 KZ.out (by decide) (by decide)
    have Km := Lib.hid HMm
    clear HMm
    go_wp2_with fail
    refine (Km.out _).mono ?_
    rintro e w' ⟨rfl, rfl⟩
    have HT2 : Hid (TMem w (W3.setCell ⟨g, r * 2, none⟩ (.int .i64 ((m : Int) - 1))) { I with relocs := I.relocs.set r ⟨(m : Int) - 1, o.off⟩ } _ _ _ x y z) := HT3.out.setRel r 0 g d3 o ⟨(m : Int) - 1, o.off⟩ (.int .i64 ((m : Int) - 1)) rfl HOb.out (by decide) rfl ⟨⟨by show -9223372036854775808 ≤ (m : Int) - 1; omega, by show (m : Int) - 1 ≤ 9223372036854775807; omega⟩, ⟨oa0, oa1⟩⟩
    obtain ⟨WF, hWF, x0, x1, x2, x3, x4, hP⟩ := TMem.out (I := I) HT2.out (by simp) (by simp) (by simp) b1 b2 b3
    obtain ⟨i0, i1, i2, i3, i4, fi, a0, a1, a2, ht, hft, _, _, _, _, _, _, _, _, _, _⟩ := HT2.out
    obtain ⟨u0, t0⟩ := ht 0 (by decide)
    obtain ⟨u1, t1⟩ := ht 1 (by decide)
    obtain ⟨u2, t2⟩ := ht 2 (by decide)
    obtain ⟨u3, t3⟩ := ht 3 (by decide)
    obtain ⟨u4, t4⟩ := ht 4 (by decide)
    have g0 := hft 0
    have g1 := hft 1
    have g2 := hft 2
    have g3 := hft 3
    have g4 := hft 4
    have HWF := Lib.hid hWF
    have HP := Lib.hid hP
    have HX := Lib.hid (And.intro x0 (And.intro x1 (And.intro x2 (And.intro x3 x4))))
    clear ht hft hWF hP x0 x1 x2 x3 x4 fi
    try dsimp only at i0 i1 i2 i3 i4
    go_wp2_with fail
    obtain ⟨x0, x1, x2, x3, x4⟩ := HX.out
    have hWF := HWF.out
    try dsimp only at hWF x0 x1 x2 x3 x4
    rw [← hWF]
    clear hWF HWF
    exact bodyPost_ret (v := .agg #[.slice q1 I.banks.length d1, .int .u16 I.entry, .int .u16 I.vector, .slice q2 I.data.length d2, .slice (some ⟨g, 0, none⟩) I.relocs.length d3]) (by simp [results, Try.results17, go_sem, x0, x1, x2, x3, x4]) rfl (HR.out _ _ HP.out)
  · have hd : decide (0 < I.relocs.length) = false := decide_eq_false hb
    have HT2 := HT
    clear hb
    obtain ⟨WF, hWF, x0, x1, x2, x3, x4, hP⟩ := TMem.out (I := I) HT2.out (by simp) (by simp) (by simp) b1 b2 b3
    obtain ⟨i0, i1, i2, i3, i4, fi, a0, a1, a2, ht, hft, _, _, _, _, _, _, _, _, _, _⟩ := HT2.out
    obtain ⟨u0, t0⟩ := ht 0 (by decide)
    obtain ⟨u1, t1⟩ := ht 1 (by decide)
    obtain ⟨u2, t2⟩ := ht 2 (by decide)
    obtain ⟨u3, t3⟩ := ht 3 (by decide)
    obtain ⟨u4, t4⟩ := ht 4 (by decide)
    have g0 := hft 0
    have g1 := hft 1
    have g2 := hft 2
    have g3 := hft 3
    have g4 := hft 4
    have HWF := Lib.hid hWF
    have HP := Lib.hid hP
    have HX := Lib.hid (And.intro x0 (And.intro x1 (And.intro x2 (And.intro x3 x4))))
    clear ht hft hWF hP x0 x1 x2 x3 x4 fi
    try dsimp only at i0 i1 i2 i3 i4
    go_wp2_with fail
    obtain ⟨x0, x1, x2, x3, x4⟩ := HX.out
    have hWF := HWF.out
    try dsimp only at hWF x0 x1 x2 x3 x4
    rw [← hWF]
    clear hWF HWF
    exact bodyPost_ret (v := .agg #[.slice q1 I.banks.length d1, .int .u16 I.entry, .int .u16 I.vector, .slice q2 I.data.length d2, .slice q3 I.relocs.length d3]) (by simp [results, Try.results17, go_sem, x0, x1, x2, x3, x4]) rfl (HR.out _ _ HP.out)
end Go.Proofs.Ytgdiaaoekkdibaa
namespace Go.Proofs.Ytgdiaaoekkdibaa
set_option linter.unusedVariables false
set_option linter.unusedSimpArgs false
open Go.RowKit
set_option maxRecDepth 100000 in
set_option maxHeartbeats 8000000 in
theorem turned_7 (p1 : Option Addr) (c1 : Nat) (p2 : Option Addr) (c2 : Nat) (p3 : Option Addr) (c3 : Nat) (I : Img) (x y z : Int) (w : World) (hI : ImgAt w p1 p2 p3 I) (hs : ∀ s ∈ I.banks, s.size ≤ 4096) (b1 : I.banks.length ≤ 100000) (b2 : I.data.length ≤ 100000) (b3 : I.relocs.length ≤ 100000) (hx : OkI64 x) (hy : OkI64 y) (hz : OkI64 z) (hm : x % 12 = 7) (Rr : Ending → World → Prop) (HR : Hid (∀ e w', TurnedPost I w e w' → Rr e w')) :
    Calls Try.prog 17 #[imgV p1 c1 p2 c2 p3 c3 I, .agg #[.int .i64 x, .int .i64 y, .int .i64 z]] w Rr := by
  have HIk := Lib.hid (hI.kept (below_alloc (below_alloc (below1 w (Obj.cells #[.slice p1 I.banks.length c1, .int .u16 I.entry, .int .u16 I.vector, .slice p2 I.data.length c2, .slice p3 I.relocs.length c3] 30)) (Obj.cells #[.int .i64 x, .int .i64 y, .int .i64 z] 23)) (Obj.cells #[Value.slice none 0 0, Value.int IntKind.u16 0, Value.int IntKind.u16 0, Value.slice none 0 0, Value.slice none 0 0] 30)))
  obtain ⟨_, ho, hr⟩ := img_parts hI
  have HT := fun (w1 : World) (v1 v2 v3 : Value) hB hO => tmem_start p1 c1 p2 c2 p3 c3 I x y z w w1 v1 v2 v3 hB hO hs ho hr hI.entry hI.vector
  have KT := Lib.hid HT
  have KX := Lib.hid hx
  have KY := Lib.hid hy
  have KZ := Lib.hid hz
  have KE := Lib.hid hI.entry
  have KV := Lib.hid hI.vector
  have KM := Lib.hid hm
  have KS := Lib.hid hs
  have KO := Lib.hid ho
  have KR := Lib.hid hr
  clear hI hs ho hr HT hx hy hz hm
  show Calls Try.prog 17 #[.agg #[.slice p1 I.banks.length c1, .int .u16 I.entry, .int .u16 I.vector, .slice p2 I.data.length c2, .slice p3 I.relocs.length c3], .agg #[.int .i64 x, .int .i64 y, .int .i64 z]] w _
  go_enter Try.func17, Try.ntmps17
  go_wp2_with fail
  refine (own_any p1 c1 p2 c2 p3 c3 I _ HIk.out (by omega) (by omega) (by omega) (OwnPost I _) (fun _ _ h => h)).mono ?_
  rintro e w1 ⟨v1, v2, v3, rfl, hO, hB⟩
  obtain ⟨q1, d1, rfl, _⟩ := own_slice hO.o1
  obtain ⟨q2, d2, rfl, _⟩ := own_slice hO.o2
  obtain ⟨q3, d3, rfl, _⟩ := own_slice hO.o3
  obtain ⟨n0, n1, n2, n3, n4, fz, hT⟩ := KT.out w1 _ _ _ hB hO
  have HT := Lib.hid hT
  have fz0 := fz 0
  have fz1 := fz 1
  have fz2 := fz 2
  have fz3 := fz 3
  have fz4 := fz 4
  obtain ⟨_, _, _, _, _, _, a0, a1, a2, _, _, _, _, _, _, _, _, _, _, _, _⟩ := hT
  clear KT hO hB HIk fz
  go_wp2_with fail
  generalize ((((w1.setCell ⟨w.heap.size, 0, none⟩ (.slice q1 I.banks.length d1)).setCell ⟨w.heap.size, 1, none⟩ (.int .u16 I.entry)).setCell ⟨w.heap.size, 2, none⟩ (.int .u16 I.vector)).setCell ⟨w.heap.size, 3, none⟩ (.slice q2 I.data.length d2)).setCell ⟨w.heap.size, 4, none⟩ (.slice q3 I.relocs.length d3) = W2 at *
  clear n0 n1 n2 n3 n4 fz0 fz1 fz2 fz3 fz4
  have hmod := mod_any x 12 W2 KX.out (by decide) (by decide)
  rw [KM.out] at hmod
  refine hmod.mono ?_
  rintro e w' ⟨rfl, rfl⟩
  clear hmod
  have wz : IntKind.u16.wrap z = z % 65536 := IntKind.wrap_u16 _
  obtain ⟨i0, i1, i2, i3, i4, fi, a0, a1, a2, _, _, _, _, _, _, _, _, _, _, _, _⟩ := HT.out
  have f0 := fi 0
  have f1 := fi 1
  have f2 := fi 2
  have f3 := fi 3
  have f4 := fi 4
  clear fi
  by_cases hb : 0 < I.data.length
  · have hd : decide (0 < I.data.length) = true := decide_eq_true hb
    obtain ⟨r, hrl, HMr⟩ := mod_varN y I.data.length KY.out (by omega) (by omega)
    have hm4 := mod_any x 4 W2 KX.out (by decide) (by decide)
    rw [show x % 4 = 3 from by have := KM.out; omega] at hm4
    obtain ⟨g, hq2, hg, hgb, hcells, hfr⟩ := own_addr HT.out.o2 hb
    subst hq2
    have hrn : r < I.data.length := by omega
    obtain ⟨o, ho⟩ := at_some I.data r hrn
    have e0 := hcells (r * 3) _ (flat_get ObjI.cells 3 I.data (fun _ => rfl) r 0 o ho (by decide))
    have e1 := hcells (r * 3 + 1) _ (flat_get ObjI.cells 3 I.data (fun _ => rfl) r 1 o ho (by decide))
    have e2 := hcells (r * 3 + 2) _ (flat_get ObjI.cells 3 I.data (fun _ => rfl) r 2 o ho (by decide))
    have h0 := hfr (r * 3)
    have h1 := hfr (r * 3 + 1)
    have h2 := hfr (r * 3 + 2)
    have Kr := Lib.hid HMr
    have K4 := Lib.hid hm4
    have HOb := Lib.hid ho
    obtain ⟨⟨ob0, ob1⟩, ⟨oa0, oa1⟩, ⟨os0, os1⟩⟩ := KO.out o (List.mem_of_getElem? ho)
    obtain ⟨m, hm, HMm⟩ := mod_var' z I.data.length KZ.out (by omega) (by omega)
    have hmn : m < I.data.length := by omega
    obtain ⟨tt, htt⟩ := at_some I.data m hmn
    have Htt := Lib.hid htt
    have Km := Lib.hid HMm
    have hmI : (m : Int) < (I.data.length : Int) := by omega
    obtain ⟨⟨tb0, tb1⟩, ⟨ta0, ta1⟩, ⟨ts0, ts1⟩⟩ := KO.out tt (List.mem_of_getElem? htt)
    clear hcells hfr HMr hm4 ho hb HMm htt
    have hrI : (r : Int) < (I.data.length : Int) := by omega
    go_wp2_with fail
    refine (Kr.out _).mono ?_
    rintro e w' ⟨rfl, rfl⟩
    go_wp2_with fail
    refine K4.out.mono ?_
    rintro e w' ⟨rfl, rfl⟩
    have HT4 := Lib.hid (HT.out.next (Below.drew (Below.refl W2.heap.size W2)))
    go_wp2_with fail
    go_still_tail 12, (by kernel_rfl)
    still_call (Km.out _)
    repeat still_step
    refine wpStill_nil ?_
    change wpList _ _ _ _ _ W2.drew
    clear i0 i1 i2 i3 i4 f0 f1 f2 f3 f4 a0 a1 a2 e0 e1 e2 h0 h1 h2
    clear HT
    generalize W2.drew = W4 at *
    have HTa := Lib.hid (HT4.out.setObj m 0 g d2 tt ⟨o.bank, tt.addr, tt.size⟩ (.int .i64 o.bank) rfl Htt.out (by decide) rfl ⟨⟨ob0, ob1⟩, ⟨ta0, ta1⟩, ⟨ts0, ts1⟩⟩)
    have HTb := Lib.hid (HTa.out.setObj m 1 g d2 ⟨o.bank, tt.addr, tt.size⟩ ⟨o.bank, o.addr, tt.size⟩ (.int .u16 o.addr) (by simp) (List.getElem?_set_self hmn) (by decide) rfl ⟨⟨ob0, ob1⟩, ⟨oa0, oa1⟩, ⟨ts0, ts1⟩⟩)
    have HT2 : Hid (TMem w (((W4.setCell ⟨g, m * 3, none⟩ (.int .i64 o.bank)).setCell ⟨g, m * 3 + 1, none⟩ (.int .u16 o.addr)).setCell ⟨g, m * 3 + 2, none⟩ (.int .u16 o.size)) { I with data := ((I.data.set m ⟨o.bank, tt.addr, tt.size⟩).set m ⟨o.bank, o.addr, tt.size⟩).set m ⟨o.bank, o.addr, o.size⟩ } _ _ _ x y z) := HTb.out.setObj m 2 g d2 ⟨o.bank, o.addr, tt.size⟩ ⟨o.bank, o.addr, o.size⟩ (.int .u16 o.size) (by simp) (List.getElem?_set_self (by simpa using hmn)) (by decide) rfl ⟨⟨ob0, ob1⟩, ⟨oa0, oa1⟩, ⟨os0, os1⟩⟩
    clear HTa HTb
    obtain ⟨g', hq2, hg', hgb', hcells, hfr⟩ := own_addr HT4.out.o2 (by omega)
    obtain rfl : g = g' := by simpa using hq2
    have k0 := hcells (m * 3) _ (flat_get ObjI.cells 3 I.data (fun _ => rfl) m 0 tt Htt.out (by decide))
    have k1 := hcells (m * 3 + 1) _ (flat_get ObjI.cells 3 I.data (fun _ => rfl) m 1 tt Htt.out (by decide))
    have k2 := hcells (m * 3 + 2) _ (flat_get ObjI.cells 3 I.data (fun _ => rfl) m 2 tt Htt.out (by decide))
    have l0 := hfr (m * 3)
    have l1 := hfr (m * 3 + 1)
    have l2 := hfr (m * 3 + 2)
    clear hcells hfr hq2 HT4
    obtain ⟨WF, hWF, x0, x1, x2, x3, x4, hP⟩ := TMem.out (I := I) HT2.out (by simp) (by simp) (by simp) b1 b2 b3
    obtain ⟨i0, i1, i2, i3, i4, fi, a0, a1, a2, ht, hft, _, _, _, _, _, _, _, _, _, _⟩ := HT2.out
    obtain ⟨u0, t0⟩ := ht 0 (by decide)
    obtain ⟨u1, t1⟩ := ht 1 (by decide)
    obtain ⟨u2, t2⟩ := ht 2 (by decide)
    obtain ⟨u3, t3⟩ := ht 3 (by decide)
    obtain ⟨u4, t4⟩ := ht 4 (by decide)
    have g0 := hft 0
    have g1 := hft 1
    have g2 := hft 2
    have g3 := hft 3
    have g4 := hft 4
    have HWF := Lib.hid hWF
    have HP := Lib.hid hP
    have HX := Lib.hid (And.intro x0 (And.intro x1 (And.intro x2 (And.intro x3 x4))))
    clear ht hft hWF hP x0 x1 x2 x3 x4 fi
    try dsimp only at i0 i1 i2 i3 i4
    go_wp2_with fail
    obtain ⟨x0, x1, x2, x3, x4⟩ := HX.out
    have hWF := HWF.out
    try dsimp only at hWF x0 x1 x2 x3 x4
    rw [← hWF]
    clear hWF HWF
    exact bodyPost_ret (v := .agg #[.slice q1 I.banks.length d1, .int .u16 I.entry, .int .u16 I.vector, .slice (some ⟨g, 0, none⟩) I.data.length d2, .slice q3 I.relocs.length d3]) (by simp [results, Try.results17, go_sem, x0, x1, x2, x3, x4]) rfl (HR.out _ _ HP.out)
  · have hd : decide (0 < I.data.length) = false := decide_eq_false hb
    have HT2 := HT
    clear hb
    obtain ⟨WF, hWF, x0, x1, x2, x3, x4, hP⟩ := TMem.out (I := I) HT2.out (by simp) (by simp) (by simp) b1 b2 b3
    obtain ⟨i0, i1, i2, i3, i4, fi, a0, a1, a2, ht, hft, _, _, _, _, _, _, _, _, _, _⟩ := HT2.out
    obtain ⟨u0, t0⟩ := ht 0 (by decide)
    obtain ⟨u1, t1⟩ := ht 1 (by decide)
    obtain ⟨u2, t2⟩ := ht 2 (by decide)
    obtain ⟨u3, t3⟩ := ht 3 (by decide)
    obtain ⟨u4, t4⟩ := ht 4 (by decide)
    have g0 := hft 0
    have g1 := hft 1
    have g2 := hft 2
    have g3 := hft 3
    have g4 := hft 4
    have HWF := Lib.hid hWF
    have HP := Lib.hid hP
    have HX := Lib.hid (And.intro x0 (And.intro x1 (And.intro x2 (And.intro x3 x4))))
    clear ht hft hWF hP x0 x1 x2 x3 x4 fi
    try dsimp only at i0 i1 i2 i3 i4
    go_wp2_with fail
    obtain ⟨x0, x1, x2, x3, x4⟩ := HX.out
    have hWF := HWF.out
    try dsimp only at hWF x0 x1 x2 x3 x4
    rw [← hWF]
    clear hWF HWF
    exact bodyPost_ret (v := .agg #[.slice q1 I.banks.length d1, .int .u16 I.entry, .int .u16 I.vector, .slice q2 I.data.length d2, .slice q3 I.relocs.length d3]) (by simp [results, Try.results17, go_sem, x0, x1, x2, x3, x4]) rfl (HR.out _ _ HP.out)
end Go.Proofs.Ytgdiaaoekkdibaa
