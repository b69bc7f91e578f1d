/- ImageFlips: the walk of the law. -/
import Derived.Test.YtgdiaaoekkdibaaD2
import Derived.Test.YtgdiaaoekkdibaaE2
import Derived.Test.YtgdiaaoekkdibaaN2
import Derived.Test.YtgdiaaoekkdibaaJ1
import Derived.Test.YtgdiaaoekkdibaaP8
namespace Go.Proofs.Ytgdiaaoekkdibaa
set_option linter.unusedVariables false
set_option linter.unusedSimpArgs false
open Go.RowKit
theorem flips_facts {w : World} {p1 p2 p3 : Option Addr} {I : Img} (h : ImgAt w p1 p2 p3 I) (hc : checkI I = 0) : (bodyL I).length ≤ 1099511627776 ∧ (fileI I).size = stopA (fileI I) + 2 ∧ wordAt (fileI I) (stopA (fileI I)) = sumI ((fileI I).extract 0 (stopA (fileI I))) (stopA (fileI I)) ∧ 16 ≤ (fileI I).size ∧ (fileI I).size ≤ 400000 := by
  have F := fileOf I hc h.entry.1 h.vector.1 (img_oks h).1 (img_oks h).2
  obtain ⟨v1, v2, hF, v3, v4, _⟩ := check_valid I hc
  have hsz : (fileI I).size = 16 + 5 * I.data.length + 3 * I.relocs.length + 4096 * I.banks.length := (bytesOf_size _).trans (fileL_len I hF)
  refine ⟨by rw [bodyL_len I hF]; omega, F.size, F.sum, by omega, by omega⟩
theorem bad_empty {s : ByteArray} (h : (readE s).2 ≠ 0) : (readI s).banks.length = 0 := by
  have e : readI s = emptyI := if_neg h
  rw [e]; rfl
set_option maxRecDepth 8000 in
set_option maxHeartbeats 8000000 in
theorem imageFlips_walk (ps : Option Addr) (pc : Nat) (S : List Int) (a : Int) (c : Int) (w : World) (hlS : S.length ≤ 9223372036854775807) (hSS : IntsAt w ps S) (a0 : -9223372036854775808 ≤ a) (a1 : a ≤ 9223372036854775807) (c0 : 0 ≤ c) (c1 : c < 65536) :
    Calls Try.prog 8 #[.slice ps S.length pc, .int .i64 a, .int .u16 c] w fun e w' => e = .returned (.bool true) ∧ Below w.heap.size w w' := by
  have KSS := Lib.hid hSS
  have KLS := Lib.hid hlS
  have Ka : Hid (OkI64 a) := ⟨a0, a1⟩
  have Kc : Hid (OkU16 c) := ⟨c0, c1⟩
  clear hSS hlS a0 a1 c0 c1
  have KF := Lib.hid (fun V (hb : Below w.heap.size w V) => hb)
  go_enter Try.func8, Try.ntmps8
  go_wp2_with fail
  refine (sanity_any _).mono ?_
  rintro e w1 ⟨rfl, h1⟩
  replace KF := Lib.hid (fun V (hb : Below w1.heap.size w1 V) => KF.out V (below_next (h1) hb))
  clear h1
  go_wp2_with fail
  refine (drawn_any ps pc S _ KLS.out (KSS.out.kept (KF.out _ (Below.refl _ _)))).mono ?_
  rintro e w2 ⟨I, p1, p4, p2, p5, p3, p6, rfl, hI, hc, l1, l2, l3, h2⟩
  have KR := Lib.hid (flips_facts hI hc)
  have KI := Lib.hid hI
  replace KF := Lib.hid (fun V (hb : Below w2.heap.size w2 V) => KF.out V (below_next (h2) hb))
  clear h2 hc l1 l2 l3 hI
  go_wp2_with fail
  refine (rfile_any p1 p4 p2 p5 p3 p6 I _ KI.out KR.out.1).mono ?_
  rintro e w3 ⟨rfl, h3⟩
  replace KF := Lib.hid (fun V (hb : Below w3.heap.size w3 V) => KF.out V (below_next (h3) hb))
  clear h3
  generalize fileI I = F at *
  have hn16 : 16 ≤ F.size := KR.out.2.2.2.1
  have hnM : F.size ≤ 400000 := KR.out.2.2.2.2
  obtain ⟨W4, cap, hcv, hrow, h4, hg⟩ := conv_row w3 F (by unfold maxLen; omega)
  have KROW := Lib.hid hrow
  have KG := Lib.hid hg
  clear hrow hg
  have hwn : IntKind.i64.wrap ((F.size : Int) - 1) = (F.size : Int) - 1 := IntWalk.i64_in _ (by omega)
  have HWN := Lib.hid hwn
  clear hwn
  by_cases hc0 : c = 0
  · have hcb : (c == 0) = true := by simpa using hc0
    clear hc0
    replace KF := Lib.hid (fun V (hb : Below W4.heap.size W4 V) => KF.out V (below_next (h4) hb))
    have KW := Lib.hid (KF.out _ (Below.refl _ _))
    clear h4
    go_wp2_with fail
    go_ret
    exact ⟨rfl, KW.out⟩
  have hcb : (c == 0) = false := by simpa using hc0
  have KC0 := Lib.hid hc0
  clear hc0
  have hwn := HWN.out
  go_wp2_with fail
  clear hwn hcv hcb
  have KB4 : Hid (Below w3.heap.size w3 W4) := Lib.hid h4
  clear h4
  refine (mod_any a ((F.size : Int) - 1) _ Ka.out (by omega) (by omega)).mono ?_
  rintro e w9 ⟨rfl, rfl⟩
  have m0 : 0 ≤ a % ((F.size : Int) - 1) := Int.emod_nonneg _ (by omega)
  have m1 : a % ((F.size : Int) - 1) < (F.size : Int) - 1 := Int.emod_lt_of_pos _ (by omega)
  generalize a % ((F.size : Int) - 1) = m at *
  obtain ⟨k0, rfl⟩ : ∃ k0 : Nat, m = k0 := ⟨m.toNat, by omega⟩
  have hw3 : IntKind.i64.wrap ((F.size : Int) - 3) = (F.size : Int) - 3 := IntWalk.i64_in _ (by omega)
  have hwk : IntKind.i64.wrap ((k0 : Int) + 1) = (k0 : Int) + 1 := IntWalk.i64_in _ (by omega)
  generalize hgg : w3.heap.size = g at *
  have HGG := Lib.hid hgg
  clear hgg
  go_upto_if 31 with (fail)
  clear hw3
  by_cases hm3 : (k0 : Int) = (F.size : Int) - 3
  · have hmb : ((k0 : Int) == (F.size : Int) - 3) = true := by simpa using hm3
    rw [hmb]
    have HM3 := Lib.hid hm3
    clear hmb hm3
    go_upto_region 8 with (fail)
    clear hwk
    have hm3 := HM3.out
    have hk2 : k0 + 1 + 1 < F.size := by omega
    have hk3 : k0 + 1 + 1 ≠ stopA F := by have := KR.out.2.1; omega
    rw [show (k0 : Int) + 1 = ((k0 + 1 : Nat) : Int) from by push_cast; rfl]
    clear hm3 m0 m1
    generalize k0 + 1 = k at *
    have KK := Lib.hid hk2
    have KK3 := Lib.hid hk3
    have hki : (0 : Int) ≤ (k : Int) := by omega
    have hkj : (k : Int) < (F.size : Int) := by omega
    have hkl : (k : Int) + 1 < (F.size : Int) := by omega
    have hkm : (0 : Int) ≤ (k : Int) + 1 := by omega
    have hkn : ((k : Int) + 1).toNat = k + 1 := by omega
    have hwk : IntKind.i64.wrap ((k : Int) + 1) = (k : Int) + 1 := IntWalk.i64_in _ (by omega)
    obtain ⟨c0, hc0⟩ : ∃ c0 : UInt8, c0 = UInt8.ofNat (c % 256).toNat := ⟨_, rfl⟩
    obtain ⟨c1, hc1⟩ : ∃ c1 : UInt8, c1 = UInt8.ofNat (c / 256).toNat := ⟨_, rfl⟩
    have hv0 : (c0.toNat : Int) = c % 256 := by rw [hc0]; exact u8_nat _ (by omega) (by omega)
    have hv1 : (c1.toNat : Int) = c / 256 := by rw [hc1]; exact u8_nat _ (by obtain ⟨u, v⟩ := Kc.out; omega) (by obtain ⟨u, v⟩ := Kc.out; omega)
    have hcc : c0 ≠ 0 ∨ c1 ≠ 0 := by
      refine Classical.byContradiction fun hn => KC0.out ?_
      have e0 : c0 = 0 := Classical.byContradiction fun e => hn (.inl e)
      have e1 : c1 = 0 := Classical.byContradiction fun e => hn (.inr e)
      have z : ((0 : UInt8).toNat : Int) = 0 := rfl
      rw [e0, z] at hv0
      rw [e1, z] at hv1
      omega
    have KCC := Lib.hid hcc
    have KV := Lib.hid (And.intro hv0 hv1)
    clear hcc hv0 hv1 hc0 hc1
    obtain ⟨z0, zf⟩ := KROW.out k (by omega)
    have hwc : IntKind.u8.wrap c = c % 256 := IntKind.wrap_u8 c
    obtain ⟨u0, v0⟩ := Kc.out
    have hwd : IntKind.u16.wrap (c.tdiv 256) % 256 = c / 256 := by rw [Int.tdiv_eq_ediv_of_nonneg u0, IntKind.wrap_u16]; omega
    go_upto_region 9 with (fail)
    clear z0 zf
    have hrow5 := KROW.out.xor k c0 (by omega) (bits .xor .u8 (byteI F k) (c % 256)) (by rw [KV.out.1])
    have KG5 : Hid (g < (W4.setCell ⟨g, k, none⟩ (.int .u8 (bits .xor .u8 (byteI F k) (c % 256)))).heap.size) := Lib.hid (by have := KG.out; simpa using this)
    have KB5 := Lib.hid (KB4.out.setCell (p := ⟨g, k, none⟩) (Nat.le_refl _) (.int .u8 (bits .xor .u8 (byteI F k) (c % 256))))
    generalize W4.setCell ⟨g, k, none⟩ (.int .u8 (bits .xor .u8 (byteI F k) (c % 256))) = W5 at *
    obtain ⟨z0, zf⟩ := hrow5 (k + 1) (by rw [xorAt_size]; omega)
    have KROW5 := Lib.hid hrow5
    clear hrow5
    have hse := xorAt_size F k c0
    have KSE := Lib.hid hse
    clear hse
    obtain ⟨cv, hcvv⟩ : ∃ cv, cv = byteI (xorAt F k c0) (k + 1) := ⟨_, rfl⟩
    rw [← hcvv] at z0
    have KCV := Lib.hid hcvv
    clear hcvv
    go_upto_region 10 with (fail)
    try rw [hwd]
    clear z0 zf hwc hwd hki hkj hkl hkm hkn hwk
    have hrow6 := KROW5.out.xor (k + 1) c1 (by rw [KSE.out]; omega) (bits .xor .u8 cv (c / 256)) (by rw [KV.out.2, KCV.out])
    have KG6 : Hid (g < (W5.setCell ⟨g, k + 1, none⟩ (.int .u8 (bits .xor .u8 cv (c / 256)))).heap.size) := Lib.hid (by have := KG5.out; simpa using this)
    have KB6 := Lib.hid (KB5.out.setCell (p := ⟨g, k + 1, none⟩) (Nat.le_refl _) (.int .u8 (bits .xor .u8 cv (c / 256))))
    generalize W5.setCell ⟨g, k + 1, none⟩ (.int .u8 (bits .xor .u8 cv (c / 256))) = W6 at *
    have hbad := flip_bad F k c0 c1 KR.out.2.1 KR.out.2.2.1 KCC.out (by omega) KK3.out
    have hsG : (flipS F k c0 c1).size = F.size := by unfold flipS; rw [xorAt_size, xorAt_size]
    have hrow7 : RowB W6 g (flipS F k c0 c1) := hrow6
    clear hrow6
    generalize flipS F k c0 c1 = G at *
    have KROW7 := Lib.hid hrow7
    have hcv6 := hrow7.back cap F.size hsG.symm
    clear hrow7
    have KSG := Lib.hid hsG
    clear hsG
    have KBD := Lib.hid hbad
    have hbb : ((readE G).2 != 0) = true := by simpa using hbad
    clear hbad
    go_wp2_with fail
    clear hcv6
    refine (read_any G _ (by rw [KSG.out]; unfold maxLen; omega)).mono ?_
    rintro e w7 ⟨q1, q4, q2, q5, q3, q6, rfl, hJ, h7⟩
    obtain ⟨E, hE⟩ : ∃ E, E = readI G := ⟨_, rfl⟩
    have heb : E.banks.length = 0 := by rw [hE]; exact bad_empty KBD.out
    rw [← hE] at hJ
    rw [← hE]
    have KEB := Lib.hid heb
    clear heb hE
    generalize (readE G).1 = eo at *
    generalize (readE G).2 = ee at *
    have HBB := Lib.hid hbb
    clear hbb
    have hrow8 := KROW7.out.next KG6.out (below_alloc h7 (Obj.cells #[.slice q1 E.banks.length q4, .int .u16 E.entry, .int .u16 E.vector, .slice q2 E.data.length q5, .slice q3 E.relocs.length q6] 30))
    have hcv8 := hrow8.back cap F.size KSG.out.symm
    have KFIN : Hid (Below g w3 (w7.alloc (Obj.cells #[.slice q1 E.banks.length q4, .int .u16 E.entry, .int .u16 E.vector, .slice q2 E.data.length q5, .slice q3 E.relocs.length q6] 30))) := Lib.hid (KB6.out.trans ((below_alloc h7 (Obj.cells #[.slice q1 E.banks.length q4, .int .u16 E.entry, .int .u16 E.vector, .slice q2 E.data.length q5, .slice q3 E.relocs.length q6] 30)).mono (Nat.le_of_lt KG6.out)))
    have KBX := Lib.hid (laid_cells w7 (.slice q1 E.banks.length q4) (.int .u16 E.entry) (.int .u16 E.vector) (.slice q2 E.data.length q5) (.slice q3 E.relocs.length q6))
    clear hrow8 hJ h7
    simp only [imgV]
    go_wp2_with fail
    clear hcv8
    generalize w7.alloc (Obj.cells #[.slice q1 E.banks.length q4, .int .u16 E.entry, .int .u16 E.vector, .slice q2 E.data.length q5, .slice q3 E.relocs.length q6] 30) = V1 at *
    refine (agrees_any G _ (by rw [KSG.out]; omega)).mono ?_
    rintro e w8 ⟨rfl, h8⟩
    obtain ⟨jv, jw, jx, jy, jz⟩ := KBX.out _ h8
    have hbb := HBB.out
    have heb : ((E.banks.length : Int) == 0) = true := by rw [KEB.out]; rfl
    have hw0 := KF.out w3 (Below.refl _ _)
    have KEND : Hid (Below w.heap.size w w8) := Lib.hid ((hw0).trans ((KFIN.out.trans (h8.mono (Nat.le_trans (by rw [← HGG.out]; exact Nat.le_refl _) (by have := KFIN.out.size; omega)))).mono (by have := (hw0).size; rw [← HGG.out]; exact this)))
    clear hw0 h8
    go_wp2_with fail
    go_ret
    exact ⟨rfl, KEND.out⟩
  · have hmb : ((k0 : Int) == (F.size : Int) - 3) = false := by simpa using hm3
    rw [hmb]
    have HM3 := Lib.hid hm3
    clear hmb hm3
    go_upto_region 8 with (fail)
    clear hwk
    have hm3 := HM3.out
    have hk2 : k0 + 1 < F.size := by omega
    have hk3 : k0 + 1 ≠ stopA F := by have := KR.out.2.1; omega
    clear hm3 m0 m1
    generalize k0 = k at *
    have KK := Lib.hid hk2
    have KK3 := Lib.hid hk3
    have hki : (0 : Int) ≤ (k : Int) := by omega
    have hkj : (k : Int) < (F.size : Int) := by omega
    have hkl : (k : Int) + 1 < (F.size : Int) := by omega
    have hkm : (0 : Int) ≤ (k : Int) + 1 := by omega
    have hkn : ((k : Int) + 1).toNat = k + 1 := by omega
    have hwk : IntKind.i64.wrap ((k : Int) + 1) = (k : Int) + 1 := IntWalk.i64_in _ (by omega)
    obtain ⟨c0, hc0⟩ : ∃ c0 : UInt8, c0 = UInt8.ofNat (c % 256).toNat := ⟨_, rfl⟩
    obtain ⟨c1, hc1⟩ : ∃ c1 : UInt8, c1 = UInt8.ofNat (c / 256).toNat := ⟨_, rfl⟩
    have hv0 : (c0.toNat : Int) = c % 256 := by rw [hc0]; exact u8_nat _ (by omega) (by omega)
    have hv1 : (c1.toNat : Int) = c / 256 := by rw [hc1]; exact u8_nat _ (by obtain ⟨u, v⟩ := Kc.out; omega) (by obtain ⟨u, v⟩ := Kc.out; omega)
    have hcc : c0 ≠ 0 ∨ c1 ≠ 0 := by
      refine Classical.byContradiction fun hn => KC0.out ?_
      have e0 : c0 = 0 := Classical.byContradiction fun e => hn (.inl e)
      have e1 : c1 = 0 := Classical.byContradiction fun e => hn (.inr e)
      have z : ((0 : UInt8).toNat : Int) = 0 := rfl
      rw [e0, z] at hv0
      rw [e1, z] at hv1
      omega
    have KCC := Lib.hid hcc
    have KV := Lib.hid (And.intro hv0 hv1)
    clear hcc hv0 hv1 hc0 hc1
    obtain ⟨z0, zf⟩ := KROW.out k (by omega)
    have hwc : IntKind.u8.wrap c = c % 256 := IntKind.wrap_u8 c
    obtain ⟨u0, v0⟩ := Kc.out
    have hwd : IntKind.u16.wrap (c.tdiv 256) % 256 = c / 256 := by rw [Int.tdiv_eq_ediv_of_nonneg u0, IntKind.wrap_u16]; omega
    go_upto_region 9 with (fail)
    clear z0 zf
    have hrow5 := KROW.out.xor k c0 (by omega) (bits .xor .u8 (byteI F k) (c % 256)) (by rw [KV.out.1])
    have KG5 : Hid (g < (W4.setCell ⟨g, k, none⟩ (.int .u8 (bits .xor .u8 (byteI F k) (c % 256)))).heap.size) := Lib.hid (by have := KG.out; simpa using this)
    have KB5 := Lib.hid (KB4.out.setCell (p := ⟨g, k, none⟩) (Nat.le_refl _) (.int .u8 (bits .xor .u8 (byteI F k) (c % 256))))
    generalize W4.setCell ⟨g, k, none⟩ (.int .u8 (bits .xor .u8 (byteI F k) (c % 256))) = W5 at *
    obtain ⟨z0, zf⟩ := hrow5 (k + 1) (by rw [xorAt_size]; omega)
    have KROW5 := Lib.hid hrow5
    clear hrow5
    have hse := xorAt_size F k c0
    have KSE := Lib.hid hse
    clear hse
    obtain ⟨cv, hcvv⟩ : ∃ cv, cv = byteI (xorAt F k c0) (k + 1) := ⟨_, rfl⟩
    rw [← hcvv] at z0
    have KCV := Lib.hid hcvv
    clear hcvv
    go_upto_region 10 with (fail)
    try rw [hwd]
    clear z0 zf hwc hwd hki hkj hkl hkm hkn hwk
    have hrow6 := KROW5.out.xor (k + 1) c1 (by rw [KSE.out]; omega) (bits .xor .u8 cv (c / 256)) (by rw [KV.out.2, KCV.out])
    have KG6 : Hid (g < (W5.setCell ⟨g, k + 1, none⟩ (.int .u8 (bits .xor .u8 cv (c / 256)))).heap.size) := Lib.hid (by have := KG5.out; simpa using this)
    have KB6 := Lib.hid (KB5.out.setCell (p := ⟨g, k + 1, none⟩) (Nat.le_refl _) (.int .u8 (bits .xor .u8 cv (c / 256))))
    generalize W5.setCell ⟨g, k + 1, none⟩ (.int .u8 (bits .xor .u8 cv (c / 256))) = W6 at *
    have hbad := flip_bad F k c0 c1 KR.out.2.1 KR.out.2.2.1 KCC.out (by omega) KK3.out
    have hsG : (flipS F k c0 c1).size = F.size := by unfold flipS; rw [xorAt_size, xorAt_size]
    have hrow7 : RowB W6 g (flipS F k c0 c1) := hrow6
    clear hrow6
    generalize flipS F k c0 c1 = G at *
    have KROW7 := Lib.hid hrow7
    have hcv6 := hrow7.back cap F.size hsG.symm
    clear hrow7
    have KSG := Lib.hid hsG
    clear hsG
    have KBD := Lib.hid hbad
    have hbb : ((readE G).2 != 0) = true := by simpa using hbad
    clear hbad
    go_wp2_with fail
    clear hcv6
    refine (read_any G _ (by rw [KSG.out]; unfold maxLen; omega)).mono ?_
    rintro e w7 ⟨q1, q4, q2, q5, q3, q6, rfl, hJ, h7⟩
    obtain ⟨E, hE⟩ : ∃ E, E = readI G := ⟨_, rfl⟩
    have heb : E.banks.length = 0 := by rw [hE]; exact bad_empty KBD.out
    rw [← hE] at hJ
    rw [← hE]
    have KEB := Lib.hid heb
    clear heb hE
    generalize (readE G).1 = eo at *
    generalize (readE G).2 = ee at *
    have HBB := Lib.hid hbb
    clear hbb
    have hrow8 := KROW7.out.next KG6.out (below_alloc h7 (Obj.cells #[.slice q1 E.banks.length q4, .int .u16 E.entry, .int .u16 E.vector, .slice q2 E.data.length q5, .slice q3 E.relocs.length q6] 30))
    have hcv8 := hrow8.back cap F.size KSG.out.symm
    have KFIN : Hid (Below g w3 (w7.alloc (Obj.cells #[.slice q1 E.banks.length q4, .int .u16 E.entry, .int .u16 E.vector, .slice q2 E.data.length q5, .slice q3 E.relocs.length q6] 30))) := Lib.hid (KB6.out.trans ((below_alloc h7 (Obj.cells #[.slice q1 E.banks.length q4, .int .u16 E.entry, .int .u16 E.vector, .slice q2 E.data.length q5, .slice q3 E.relocs.length q6] 30)).mono (Nat.le_of_lt KG6.out)))
    have KBX := Lib.hid (laid_cells w7 (.slice q1 E.banks.length q4) (.int .u16 E.entry) (.int .u16 E.vector) (.slice q2 E.data.length q5) (.slice q3 E.relocs.length q6))
    clear hrow8 hJ h7
    simp only [imgV]
    go_wp2_with fail
    clear hcv8
    generalize w7.alloc (Obj.cells #[.slice q1 E.banks.length q4, .int .u16 E.entry, .int .u16 E.vector, .slice q2 E.data.length q5, .slice q3 E.relocs.length q6] 30) = V1 at *
    refine (agrees_any G _ (by rw [KSG.out]; omega)).mono ?_
    rintro e w8 ⟨rfl, h8⟩
    obtain ⟨jv, jw, jx, jy, jz⟩ := KBX.out _ h8
    have hbb := HBB.out
    have heb : ((E.banks.length : Int) == 0) = true := by rw [KEB.out]; rfl
    have hw0 := KF.out w3 (Below.refl _ _)
    have KEND : Hid (Below w.heap.size w w8) := Lib.hid ((hw0).trans ((KFIN.out.trans (h8.mono (Nat.le_trans (by rw [← HGG.out]; exact Nat.le_refl _) (by have := KFIN.out.size; omega)))).mono (by have := (hw0).size; rw [← HGG.out]; exact this)))
    clear hw0 h8
    go_wp2_with fail
    go_ret
    exact ⟨rfl, KEND.out⟩
end Go.Proofs.Ytgdiaaoekkdibaa
