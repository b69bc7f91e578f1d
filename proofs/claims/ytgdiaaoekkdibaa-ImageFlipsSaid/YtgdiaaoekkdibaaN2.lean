/- agrees: the walk of the law. -/
import Derived.Test.YtgdiaaoekkdibaaK2
import Derived.Test.YtgdiaaoekkdibaaN1
import Derived.Test.YtgdiaaoekkdibaaR1
import Derived.Test.YtgdiaaoekkdibaaR2
import Derived.Test.YtgdiaaoekkdibaaL0
namespace Go.Proofs.Ytgdiaaoekkdibaa
set_option linter.unusedVariables false
set_option linter.unusedSimpArgs false
open Go.RowKit
set_option maxRecDepth 8000 in
set_option maxHeartbeats 8000000 in
theorem agrees_any (s : ByteArray) (w : World) (hzs : s.size ≤ 9223372036854775807) :
    Calls Try.prog 24 #[.string s] w fun e w' => e = .returned (.bool true) ∧ Below w.heap.size w w' := by
  have KF := Lib.hid (fun V (hb : Below w.heap.size w V) => hb)
  go_enter Try.func24, Try.ntmps24
  go_wp2_with fail
  have HS : Hid (s.size ≤ maxLen) := Lib.hid hzs
  clear hzs
  refine (read_any s _ HS.out).mono ?_
  rintro e w2 ⟨p1, p4, p2, p5, p3, p6, rfl, hI, h2⟩
  obtain ⟨I, hIe⟩ : ∃ I, I = readI s := ⟨_, rfl⟩
  obtain ⟨a, hae⟩ : ∃ a, a = (readE s).1 := ⟨_, rfl⟩
  obtain ⟨b, hbe⟩ : ∃ b, b = (readE s).2 := ⟨_, rfl⟩
  rw [← hIe] at hI
  rw [← hIe, ← hae, ← hbe]
  have KE := Lib.hid (And.intro hIe (And.intro hae hbe))
  clear hIe hae hbe
  replace KF := Lib.hid (fun V (hb : Below (w2.alloc (Obj.cells #[.slice p1 I.banks.length p4, .int .u16 I.entry, .int .u16 I.vector, .slice p2 I.data.length p5, .slice p3 I.relocs.length p6] 30)).heap.size (w2.alloc (Obj.cells #[.slice p1 I.banks.length p4, .int .u16 I.entry, .int .u16 I.vector, .slice p2 I.data.length p5, .slice p3 I.relocs.length p6] 30)) V) => And.intro (And.intro (KF.out V (below_next (below_alloc h2 (Obj.cells #[.slice p1 I.banks.length p4, .int .u16 I.entry, .int .u16 I.vector, .slice p2 I.data.length p5, .slice p3 I.relocs.length p6] 30)) hb)) (laid_cells w2 (.slice p1 I.banks.length p4) (.int .u16 I.entry) (.int .u16 I.vector) (.slice p2 I.data.length p5) (.slice p3 I.relocs.length p6) V hb)) ((hI.kept (below1 w2 (Obj.cells #[.slice p1 I.banks.length p4, .int .u16 I.entry, .int .u16 I.vector, .slice p2 I.data.length p5, .slice p3 I.relocs.length p6] 30))).kept hb))
  clear hI h2
  simp only [imgV]
  go_wp2_with fail
  generalize w2.alloc (Obj.cells #[.slice p1 I.banks.length p4, .int .u16 I.entry, .int .u16 I.vector, .slice p2 I.data.length p5, .slice p3 I.relocs.length p6] 30) = V1 at *
  refine (rread_any s _ HS.out (ReadPost s V1) (Lib.hid fun _ _ h => h)).mono ?_
  rintro e w3 ⟨q1, q4, q2, q5, q3, q6, rfl, hJ, h3⟩
  rw [← KE.out.1] at hJ
  rw [← KE.out.1, ← KE.out.2.1, ← KE.out.2.2]
  have KJ3 := Lib.hid hJ
  replace KF := Lib.hid (fun V (hb : Below (w3.alloc (Obj.cells #[.slice q1 I.banks.length q4, .int .u16 I.entry, .int .u16 I.vector, .slice q2 I.data.length q5, .slice q3 I.relocs.length q6] 30)).heap.size (w3.alloc (Obj.cells #[.slice q1 I.banks.length q4, .int .u16 I.entry, .int .u16 I.vector, .slice q2 I.data.length q5, .slice q3 I.relocs.length q6] 30)) V) => And.intro (And.intro (KF.out V (below_next (below_alloc h3 (Obj.cells #[.slice q1 I.banks.length q4, .int .u16 I.entry, .int .u16 I.vector, .slice q2 I.data.length q5, .slice q3 I.relocs.length q6] 30)) hb)) (laid_cells w3 (.slice q1 I.banks.length q4) (.int .u16 I.entry) (.int .u16 I.vector) (.slice q2 I.data.length q5) (.slice q3 I.relocs.length q6) V hb)) ((KJ3.out.kept (below1 w3 (Obj.cells #[.slice q1 I.banks.length q4, .int .u16 I.entry, .int .u16 I.vector, .slice q2 I.data.length q5, .slice q3 I.relocs.length q6] 30))).kept hb))
  clear hJ h3
  simp only [imgV]
  obtain ⟨iv, iw, ix, iy, iz⟩ := (KF.out _ (Below.refl _ _)).1.1.1.2
  obtain ⟨jv, jw, jx, jy, jz⟩ := (KF.out _ (Below.refl _ _)).1.2
  go_wp2_with fail
  clear iv iw ix iy iz jv jw jx jy jz
  generalize w3.alloc (Obj.cells #[.slice q1 I.banks.length q4, .int .u16 I.entry, .int .u16 I.vector, .slice q2 I.data.length q5, .slice q3 I.relocs.length q6] 30) = V2 at *
  refine (rsame_self p1 p4 p2 p5 p3 p6 q1 q4 q2 q5 q3 q6 I _ (KF.out _ (Below.refl _ _)).1.1.2 (KF.out _ (Below.refl _ _)).2).mono ?_
  rintro e w4 ⟨rfl, h4⟩
  replace KF := Lib.hid (fun V (hb : Below w4.heap.size w4 V) => KF.out V (below_next (h4) hb))
  have KW := Lib.hid (KF.out _ (Below.refl _ _)).1.1.1.1
  clear h4
  have haa : (a == a) = true := by simp
  have hbb : (b == b) = true := by simp
  go_wp2_with fail
  go_ret
  exact ⟨rfl, KW.out⟩
end Go.Proofs.Ytgdiaaoekkdibaa
