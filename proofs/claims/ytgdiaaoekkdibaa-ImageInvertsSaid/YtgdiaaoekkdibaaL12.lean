/- ImageInverts: the walk of the law. -/
import Derived.Test.YtgdiaaoekkdibaaK2
import Derived.Test.YtgdiaaoekkdibaaD2
import Derived.Test.YtgdiaaoekkdibaaE2
import Derived.Test.YtgdiaaoekkdibaaR2
import Derived.Test.YtgdiaaoekkdibaaC5
import Derived.Test.YtgdiaaoekkdibaaJ2
import Derived.Test.YtgdiaaoekkdibaaL0
namespace Go.Proofs.Ytgdiaaoekkdibaa
set_option linter.unusedVariables false
set_option linter.unusedSimpArgs false
open Go.RowKit
set_option maxRecDepth 8000 in
set_option maxHeartbeats 8000000 in
theorem imageInverts_walk (ps : Option Addr) (pc : Nat) (S : List Int) (w : World) (hlS : S.length ≤ 9223372036854775807) (hSS : IntsAt w ps S) :
    Calls Try.prog 12 #[.slice ps S.length pc] w fun e w' => e = .returned (.bool true) ∧ Below w.heap.size w w' := by
  have KSS := Lib.hid hSS
  have KLS := Lib.hid hlS
  clear hSS hlS
  have KF := Lib.hid (fun V (hb : Below w.heap.size w V) => hb)
  go_enter Try.func12, Try.ntmps12
  go_wp2_with fail
  refine (sanity_any _).mono ?_
  rintro e w1 ⟨rfl, h1⟩
  replace KF := Lib.hid (fun V (hb : Below w1.heap.size w1 V) => KF.out V (below_next (h1) hb))
  clear h1
  go_wp2_with fail
  refine (drawn_any ps pc S _ KLS.out (KSS.out.kept (KF.out _ (Below.refl _ _)))).mono ?_
  rintro e w2 ⟨I, p1, p4, p2, p5, p3, p6, rfl, hI, hc, l1, l2, l3, h2⟩
  have KR := Lib.hid (inverts_facts hI hc)
  clear hc
  replace KF := Lib.hid (fun V (hb : Below (w2.alloc (Obj.cells #[.slice p1 I.banks.length p4, .int .u16 I.entry, .int .u16 I.vector, .slice p2 I.data.length p5, .slice p3 I.relocs.length p6] 30)).heap.size (w2.alloc (Obj.cells #[.slice p1 I.banks.length p4, .int .u16 I.entry, .int .u16 I.vector, .slice p2 I.data.length p5, .slice p3 I.relocs.length p6] 30)) V) => And.intro (And.intro (KF.out V (below_next (below_alloc h2 (Obj.cells #[.slice p1 I.banks.length p4, .int .u16 I.entry, .int .u16 I.vector, .slice p2 I.data.length p5, .slice p3 I.relocs.length p6] 30)) hb)) (laid_cells w2 (.slice p1 I.banks.length p4) (.int .u16 I.entry) (.int .u16 I.vector) (.slice p2 I.data.length p5) (.slice p3 I.relocs.length p6) V hb)) ((hI.kept (below1 w2 (Obj.cells #[.slice p1 I.banks.length p4, .int .u16 I.entry, .int .u16 I.vector, .slice p2 I.data.length p5, .slice p3 I.relocs.length p6] 30))).kept hb))
  clear hI h2
  simp only [imgV]
  obtain ⟨iv, iw, ix, iy, iz⟩ := (KF.out _ (Below.refl _ _)).1.2
  go_wp2_with fail
  generalize w2.alloc (Obj.cells #[.slice p1 I.banks.length p4, .int .u16 I.entry, .int .u16 I.vector, .slice p2 I.data.length p5, .slice p3 I.relocs.length p6] 30) = V1 at *
  clear iv iw ix iy iz
  refine (bytes_any p1 p4 p2 p5 p3 p6 I _ (KF.out _ (Below.refl _ _)).2).mono ?_
  rintro e w3 ⟨rfl, h3⟩
  rw [KR.out.2.1, KR.out.1]
  generalize fileI I = f at *
  replace KF := Lib.hid (fun V (hb : Below w3.heap.size w3 V) => KF.out V (below_next (h3) hb))
  clear h3
  go_wp2_with fail
  refine (read_any f _ KR.out.2.2.2.2).mono ?_
  rintro e w4 ⟨q1, q4, q2, q5, q3, q6, rfl, hJ, h4⟩
  rw [KR.out.2.2.2.1] at hJ
  rw [KR.out.2.2.2.1, KR.out.2.2.1]
  dsimp only
  replace KF := Lib.hid (fun V (hb : Below (w4.alloc (Obj.cells #[.slice q1 I.banks.length q4, .int .u16 I.entry, .int .u16 I.vector, .slice q2 I.data.length q5, .slice q3 I.relocs.length q6] 30)).heap.size (w4.alloc (Obj.cells #[.slice q1 I.banks.length q4, .int .u16 I.entry, .int .u16 I.vector, .slice q2 I.data.length q5, .slice q3 I.relocs.length q6] 30)) V) => And.intro (And.intro (KF.out V (below_next (below_alloc h4 (Obj.cells #[.slice q1 I.banks.length q4, .int .u16 I.entry, .int .u16 I.vector, .slice q2 I.data.length q5, .slice q3 I.relocs.length q6] 30)) hb)) (laid_cells w4 (.slice q1 I.banks.length q4) (.int .u16 I.entry) (.int .u16 I.vector) (.slice q2 I.data.length q5) (.slice q3 I.relocs.length q6) V hb)) ((hJ.kept (below1 w4 (Obj.cells #[.slice q1 I.banks.length q4, .int .u16 I.entry, .int .u16 I.vector, .slice q2 I.data.length q5, .slice q3 I.relocs.length q6] 30))).kept hb))
  clear hJ h4
  simp only [imgV]
  obtain ⟨jv, jw, jx, jy, jz⟩ := (KF.out _ (Below.refl _ _)).1.2
  go_wp2_with fail
  generalize w4.alloc (Obj.cells #[.slice q1 I.banks.length q4, .int .u16 I.entry, .int .u16 I.vector, .slice q2 I.data.length q5, .slice q3 I.relocs.length q6] 30) = V2 at *
  clear jv jw jx jy jz
  refine (bytes_any q1 q4 q2 q5 q3 q6 I _ (KF.out _ (Below.refl _ _)).2).mono ?_
  rintro e w5 ⟨rfl, h5⟩
  rw [KR.out.2.1, KR.out.1]
  replace KF := Lib.hid (fun V (hb : Below w5.heap.size w5 V) => KF.out V (below_next (h5) hb))
  clear h5
  obtain ⟨jv, jw, jx, jy, jz⟩ := (KF.out _ (Below.refl _ _)).1.2
  obtain ⟨iv, iw, ix, iy, iz⟩ := (KF.out _ (Below.refl _ _)).1.1.1.2
  go_wp2_with fail
  clear jv jw jx jy jz iv iw ix iy iz
  refine (rsame_self q1 q4 q2 q5 q3 q6 p1 p4 p2 p5 p3 p6 I _ (KF.out _ (Below.refl _ _)).2 (KF.out _ (Below.refl _ _)).1.1.2).mono ?_
  rintro e w6 ⟨rfl, h6⟩
  replace KF := Lib.hid (fun V (hb : Below w6.heap.size w6 V) => KF.out V (below_next (h6) hb))
  clear h6
  obtain ⟨jv, jw, jx, jy, jz⟩ := (KF.out _ (Below.refl _ _)).1.2
  obtain ⟨iv, iw, ix, iy, iz⟩ := (KF.out _ (Below.refl _ _)).1.1.1.2
  have hxx : (f.toList == f.toList) = true := by simp
  go_wp2_with fail
  clear jv jw jx jy jz iv iw ix iy iz
  refine (same_self q1 q4 q2 q5 q3 q6 p1 p4 p2 p5 p3 p6 I _ (KF.out _ (Below.refl _ _)).2 (KF.out _ (Below.refl _ _)).1.1.2).mono ?_
  rintro e w7 ⟨rfl, h7⟩
  replace KF := Lib.hid (fun V (hb : Below w7.heap.size w7 V) => KF.out V (below_next (h7) hb))
  have KW := Lib.hid (KF.out _ (Below.refl _ _)).1.1.1.1
  clear h7 hxx
  go_wp2_with fail
  go_ret
  exact ⟨rfl, KW.out⟩
end Go.Proofs.Ytgdiaaoekkdibaa
