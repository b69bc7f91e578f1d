/- Contracts: objects that are wrong. -/
import Derived.Test.YtgdiaaoekkdibaaI1
namespace Go.Proofs.Ytgdiaaoekkdibaa
set_option linter.unusedVariables false
open Go.RowKit
set_option maxHeartbeats 1000000 in
theorem wrongObject_any (p : Option Addr) (cap : Nat) (l : List ObjI) (k : Nat) (banks : Int) (w : World) (hl : l.length ≤ maxLen) (ho : ObjsAt w p l) (hb : OkI64 banks) (o : ObjI) (hk : l[k]? = some o) :
    Calls Try.prog 48 #[.int .i64 banks, .slice p l.length cap, .int .i64 (k : Int)] w fun e w' => e = .returned (.bool (objWrong banks (prevAt l k) o)) ∧ Below w.heap.size w w' := by
  obtain ⟨b0, b1⟩ := hb
  obtain ⟨B, rfl, hBs, c0, c1, c2, ⟨o0, o1⟩, ⟨o2, o3⟩, ⟨o4, o5⟩⟩ := ho k o hk
  have hlt : k < l.length := (List.getElem?_eq_some_iff.1 hk).1
  have HK := Lib.hid hk
  clear hk
  unfold maxLen at hl
  by_cases hk0 : k = 0
  · subst hk0
    have hW : objWrong banks (prevAt l 0) o = decide (o.bad0 banks) := rfl
    rw [hW]; clear hW ho
    go_enter Try.func48, Try.ntmps48
    go_wp2
    all_goals
      go_ret
      refine ⟨ret_bool ?_, by repeat (first | exact Below.refl _ _ | refine below_alloc ?_ _)⟩
      try simp only [beq_iff_eq, beq_eq_false_iff_ne, ne_eq] at *
      first
        | exact dec_true (by unfold ObjI.bad0; omega)
        | exact dec_false (by unfold ObjI.bad0; omega)
  · obtain ⟨j, rfl⟩ : ∃ j, k = j + 1 := ⟨k - 1, by omega⟩
    obtain ⟨q, hq⟩ := at_some l j (by omega)
    obtain ⟨B', hBB, hBs', e0, e1, e2, ⟨p0, p1⟩, ⟨p2, p3⟩, ⟨p4, p5⟩⟩ := ho j q hq
    obtain rfl : B = B' := by simpa using hBB
    have hW : objWrong banks (prevAt l (j + 1)) o = decide (o.bad0 banks ∨ q.after o) := by rw [prev_next, hq]; rfl
    obtain ⟨X, hX⟩ : ∃ X, objWrong banks (prevAt l (j + 1)) o = X := ⟨_, rfl⟩
    rw [hX]
    have HX : Hid (X = decide (o.bad0 banks ∨ q.after o)) := hX.symm.trans hW
    clear hX hW ho hq hBB hBs'
    go_enter Try.func48, Try.ntmps48
    go_wp2
    all_goals
      go_ret
      refine ⟨ret_bool ?_, by repeat (first | exact Below.refl _ _ | refine below_alloc ?_ _)⟩
      rw [HX.out]
      try simp only [beq_iff_eq, beq_eq_false_iff_ne, ne_eq] at *
      first
        | exact dec_true (by unfold ObjI.bad0 ObjI.after; omega)
        | exact dec_false (by unfold ObjI.bad0 ObjI.after; omega)
        | exact decide_eq_decide.2 (by unfold ObjI.bad0 ObjI.after; omega)
end Go.Proofs.Ytgdiaaoekkdibaa
