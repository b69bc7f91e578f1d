/- ImageBytes: the walk of the law. -/
import Derived.Test.YtgdiaaoekkdibaaT8
import Derived.Test.YtgdiaaoekkdibaaD2
import Derived.Test.YtgdiaaoekkdibaaE2
import Derived.Test.YtgdiaaoekkdibaaJ2
import Derived.Test.YtgdiaaoekkdibaaL0
namespace Go.Proofs.Ytgdiaaoekkdibaa
set_option linter.unusedVariables false
set_option linter.unusedSimpArgs false
open Go.RowKit
set_option maxRecDepth 8000 in
set_option maxHeartbeats 4000000 in
theorem imageBytes_walk (ps : Option Addr) (cap : Nat) (L : List Int) (x y z : Int) (w : World) (hl : L.length ≤ 9223372036854775807) (hS : IntsAt w ps L) (x0 : -9223372036854775808 ≤ x) (x1 : x ≤ 9223372036854775807) (y0 : -9223372036854775808 ≤ y) (y1 : y ≤ 9223372036854775807) (z0 : -9223372036854775808 ≤ z) (z1 : z ≤ 9223372036854775807) :
    Calls Try.prog 5 #[.slice ps L.length cap, .agg #[.int .i64 x, .int .i64 y, .int .i64 z]] w fun e w' => e = .returned (.bool true) ∧ Below w.heap.size w w' := by
  have KS := Lib.hid hS
  have KL := Lib.hid hl
  have KX : Hid (OkI64 x) := ⟨x0, x1⟩
  have KY : Hid (OkI64 y) := ⟨y0, y1⟩
  have KZ : Hid (OkI64 z) := ⟨z0, z1⟩
  clear hS hl x0 x1 y0 y1 z0 z1
  have KQ := Lib.hid (one_arr w x y z)
  have KW0 := Lib.hid (below1 w (Obj.cells #[.int .i64 x, .int .i64 y, .int .i64 z] 23))
  go_enter Try.func5, Try.ntmps5
  go_wp2_with fail
  have hW0 : ((w.alloc (Obj.cells #[.int .i64 x, .int .i64 y, .int .i64 z] 23))).heap.size = w.heap.size + 1 := by simp
  generalize (w.alloc (Obj.cells #[.int .i64 x, .int .i64 y, .int .i64 z] 23)) = W0 at *
  refine (sanity_any _).mono ?_
  rintro e w1 ⟨rfl, h1⟩
  have KW1 := Lib.hid (below_next KW0.out h1)
  have KB1 := Lib.hid h1
  obtain ⟨e0, e1, e2⟩ := KQ.out _ KB1.out
  clear h1 KW0
  go_wp2_with fail
  refine (drawn_any ps cap L _ KL.out (KS.out.kept KW1.out)).mono ?_
  rintro e w2 ⟨I, p1, c1, p2, c2, p3, c3, rfl, hI, hc, l1, l2, l3, h2⟩
  have KW2 := Lib.hid (below_next KW1.out h2)
  have KB2 := Lib.hid (below_next KB1.out h2)
  clear e0 e1 e2
  obtain ⟨e0, e1, e2⟩ := KQ.out _ KB2.out
  clear KB1
  clear e0 e1 e2
  have HI := Lib.hid (hI.kept (below1 w2 (Obj.cells #[.slice p1 I.banks.length c1, .int .u16 I.entry, .int .u16 I.vector, .slice p2 I.data.length c2, .slice p3 I.relocs.length c3] 30)))
  have HC := Lib.hid hc
  have HF := Lib.hid (full_size hc)
  have KI := Lib.hid (laid_cells w2 (.slice p1 I.banks.length c1) (.int .u16 I.entry) (.int .u16 I.vector) (.slice p2 I.data.length c2) (.slice p3 I.relocs.length c3))
  have KWA := Lib.hid (KW2.out.trans ((below1 w2 (Obj.cells #[.slice p1 I.banks.length c1, .int .u16 I.entry, .int .u16 I.vector, .slice p2 I.data.length c2, .slice p3 I.relocs.length c3] 30)).mono (by have := KW2.out.size; omega)))
  have KBA := Lib.hid (below_next KB2.out (below1 w2 (Obj.cells #[.slice p1 I.banks.length c1, .int .u16 I.entry, .int .u16 I.vector, .slice p2 I.data.length c2, .slice p3 I.relocs.length c3] 30)))
  obtain ⟨e0, e1, e2⟩ := KQ.out _ KBA.out
  obtain ⟨i0, i1, i2, i3, i4⟩ := KI.out _ (Below.refl _ _)
  clear hI hc h2 KW1 KW2 KB2
  simp only [imgV]
  go_wp2_with fail
  generalize w2.alloc (Obj.cells #[.slice p1 I.banks.length c1, .int .u16 I.entry, .int .u16 I.vector, .slice p2 I.data.length c2, .slice p3 I.relocs.length c3] 30) = WA at *
  refine (turned_any p1 c1 p2 c2 p3 c3 I x y z WA HI.out HF.out (by omega) (by omega) (by omega) KX.out KY.out KZ.out (TurnedPost I WA) (fun _ _ h => h)).mono ?_
  rintro e w3 ⟨J, q1, d1, q2, d2, q3, d3, rfl, hJ, hFJ, m1, m2, m3, h3⟩
  have HI3 := Lib.hid (HI.out.kept (below_next h3 (below1 w3 (Obj.cells #[.slice q1 J.banks.length d1, .int .u16 J.entry, .int .u16 J.vector, .slice q2 J.data.length d2, .slice q3 J.relocs.length d3] 30))))
  have HJ := Lib.hid (hJ.kept (below1 w3 (Obj.cells #[.slice q1 J.banks.length d1, .int .u16 J.entry, .int .u16 J.vector, .slice q2 J.data.length d2, .slice q3 J.relocs.length d3] 30)))
  have HFJ := Lib.hid hFJ
  have KJ := Lib.hid (laid_cells w3 (.slice q1 J.banks.length d1) (.int .u16 J.entry) (.int .u16 J.vector) (.slice q2 J.data.length d2) (.slice q3 J.relocs.length d3))
  have KVB := Lib.hid (below_next h3 (below1 w3 (Obj.cells #[.slice q1 J.banks.length d1, .int .u16 J.entry, .int .u16 J.vector, .slice q2 J.data.length d2, .slice q3 J.relocs.length d3] 30)))
  have KWB := Lib.hid (below_next KWA.out KVB.out)
  have KBB := Lib.hid (below_next KBA.out KVB.out)
  clear e0 e1 e2 i0 i1 i2 i3 i4
  obtain ⟨e0, e1, e2⟩ := KQ.out _ KBB.out
  obtain ⟨i0, i1, i2, i3, i4⟩ := KI.out _ KVB.out
  obtain ⟨j0, j1, j2, j3, j4⟩ := KJ.out _ (Below.refl _ _)
  clear hJ hFJ h3 KWA KBA HI HF
  simp only [imgV]
  go_wp2_with fail
  generalize w3.alloc (Obj.cells #[.slice q1 J.banks.length d1, .int .u16 J.entry, .int .u16 J.vector, .slice q2 J.data.length d2, .slice q3 J.relocs.length d3] 30) = WB at *
  have HB : Hid (bytesI I = fileI I) := if_pos HC.out
  have cB : Calls Try.prog 21 #[imgV p1 c1 p2 c2 p3 c3 I] WB fun e w' => e = .returned (.tuple #[.string (fileI I), .int .i64 0]) ∧ Below WB.heap.size WB w' := by
    have := bytes_any p1 c1 p2 c2 p3 c3 I WB HI3.out
    rwa [HB.out, HC.out] at this
  refine cB.mono ?_
  rintro e w5 ⟨rfl, h5⟩
  have KV5 := Lib.hid h5
  clear h5 e0 e1 e2 i0 i1 i2 i3 i4 j0 j1 j2 j3 j4
  obtain ⟨j0, j1, j2, j3, j4⟩ := KJ.out _ KV5.out
  go_wp2_with fail
  refine (bytes_any q1 d1 q2 d2 q3 d3 J w5 (HJ.out.kept KV5.out)).mono ?_
  rintro e w6 ⟨rfl, h6⟩
  have KV6 := Lib.hid (below_next KV5.out h6)
  clear h6 j0 j1 j2 j3 j4
  obtain ⟨j0, j1, j2, j3, j4⟩ := KJ.out _ KV6.out
  go_wp2_with fail
  refine (rbytes_any q1 d1 q2 d2 q3 d3 J w6 (HJ.out.kept KV6.out)).mono ?_
  rintro e w7 ⟨rfl, h7⟩
  have KV7 := Lib.hid (below_next KV6.out h7)
  clear h7 j0 j1 j2 j3 j4
  have HL : Hid ((bodyL I).length ≤ 1099511627776) := by
    obtain ⟨_, a2, a3, a4, a5, _⟩ := check_valid I HC.out
    refine Lib.hid ?_
    rw [bodyL_len I a3]; omega
  obtain ⟨i0, i1, i2, i3, i4⟩ := KI.out _ (below_next KVB.out KV7.out)
  go_wp2_with fail
  refine (rfile_any p1 c1 p2 c2 p3 c3 I _ (HI3.out.kept KV7.out) HL.out).mono ?_
  rintro e w9 ⟨rfl, h9⟩
  clear i0 i1 i2 i3 i4
  have HE := Lib.hid (below_next KWB.out (below_next KV7.out h9))
  clear h9
  go_wp2_with fail
  go_ret
  exact ⟨rfl, HE.out⟩
end Go.Proofs.Ytgdiaaoekkdibaa
