/- Own, Same and its reference, as the laws use them. -/
import Derived.Test.YtgdiaaoekkdibaaR0
import Derived.Test.YtgdiaaoekkdibaaQ3
namespace Go.Proofs.Ytgdiaaoekkdibaa
set_option linter.unusedVariables false
set_option linter.unusedSimpArgs false
open Go.RowKit
theorem sameL_self {α : Type} [DecidableEq α] (l : List α) : sameL l l = true := decide_eq_true rfl
theorem sameL_comm {α : Type} [DecidableEq α] (l m : List α) : sameL l m = sameL m l := by unfold sameL; rw [decide_eq_decide]; exact eq_comm
theorem sameI_self (I : Img) : sameI I I = true := by unfold sameI; simp [sameL_self]
theorem sameI_comm (A B : Img) : sameI A B = sameI B A := by unfold sameI; rw [sameL_comm A.banks, sameL_comm A.data, sameL_comm A.relocs, Bool.beq_comm (a := A.entry), Bool.beq_comm (a := A.vector)]
def OwnedImg (I : Img) (v : Value) (V : World) : Prop := ∃ (o1 : Option Addr) (o4 : Nat) (o2 : Option Addr) (o5 : Nat) (o3 : Option Addr) (o6 : Nat), v = imgV o1 o4 o2 o5 o3 o6 I ∧ ImgAt V o1 o2 o3 I
theorem own_img (p1 : Option Addr) (p4 : Nat) (p2 : Option Addr) (p5 : Nat) (p3 : Option Addr) (p6 : Nat) (I : Img) (w : World) (hI : ImgAt w p1 p2 p3 I) (b1 : I.banks.length ≤ 100000) (b2 : I.data.length ≤ 100000) (b3 : I.relocs.length ≤ 100001) :
    Calls Try.prog 38 #[imgV p1 p4 p2 p5 p3 p6 I] w fun e w' => ∃ v, e = .returned v ∧ OwnedImg I v w' ∧ Below w.heap.size w w' := by
  refine (own_any p1 p4 p2 p5 p3 p6 I w hI (by omega) (by omega) (by omega) (OwnPost I w) (Lib.hid fun _ _ h => h)).mono ?_
  rintro e w1 ⟨v1, v2, v3, rfl, h, hb⟩
  obtain ⟨i1, i2, i3⟩ := img_parts hI
  obtain ⟨o1, o4, o2, o5, o3, o6, rfl, rfl, rfl, hA⟩ := h.img i1 i2 i3 hI.entry hI.vector hI.l1 hI.l2 hI.l3
  exact ⟨_, rfl, ⟨o1, o4, o2, o5, o3, o6, rfl, hA⟩, hb⟩
theorem same_self (p1 : Option Addr) (p4 : Nat) (p2 : Option Addr) (p5 : Nat) (p3 : Option Addr) (p6 : Nat) (q1 : Option Addr) (q4 : Nat) (q2 : Option Addr) (q5 : Nat) (q3 : Option Addr) (q6 : Nat) (I : Img) (w : World) (hI : ImgAt w p1 p2 p3 I) (hJ : ImgAt w q1 q2 q3 I) :
    Calls Try.prog 37 #[imgV p1 p4 p2 p5 p3 p6 I, imgV q1 q4 q2 q5 q3 q6 I] w fun e w' => e = .returned (.bool true) ∧ Below w.heap.size w w' := by
  have := same_any p1 p4 p2 p5 p3 p6 I q1 q4 q2 q5 q3 q6 I w hI hJ
  rwa [sameI_self] at this
theorem rsame_self (p1 : Option Addr) (p4 : Nat) (p2 : Option Addr) (p5 : Nat) (p3 : Option Addr) (p6 : Nat) (q1 : Option Addr) (q4 : Nat) (q2 : Option Addr) (q5 : Nat) (q3 : Option Addr) (q6 : Nat) (I : Img) (w : World) (hI : ImgAt w p1 p2 p3 I) (hJ : ImgAt w q1 q2 q3 I) :
    Calls Try.prog 36 #[imgV p1 p4 p2 p5 p3 p6 I, imgV q1 q4 q2 q5 q3 q6 I] w fun e w' => e = .returned (.bool true) ∧ Below w.heap.size w w' := by
  have := rsame_any p1 p4 p2 p5 p3 p6 I q1 q4 q2 q5 q3 q6 I w hI hJ
  rwa [sameI_self] at this
theorem same_swap (p1 : Option Addr) (p4 : Nat) (p2 : Option Addr) (p5 : Nat) (p3 : Option Addr) (p6 : Nat) (I : Img) (q1 : Option Addr) (q4 : Nat) (q2 : Option Addr) (q5 : Nat) (q3 : Option Addr) (q6 : Nat) (J : Img) (w : World) (hI : ImgAt w p1 p2 p3 I) (hJ : ImgAt w q1 q2 q3 J) :
    Calls Try.prog 37 #[imgV p1 p4 p2 p5 p3 p6 I, imgV q1 q4 q2 q5 q3 q6 J] w fun e w' => e = .returned (.bool (sameI J I)) ∧ Below w.heap.size w w' := by
  have := same_any p1 p4 p2 p5 p3 p6 I q1 q4 q2 q5 q3 q6 J w hI hJ
  rwa [sameI_comm] at this
theorem empty_at (w : World) (p1 p2 p3 : Option Addr) : ImgAt w p1 p2 p3 emptyI := by
  refine ⟨fun k s h => by simp [emptyI] at h, fun k s h => by simp [emptyI] at h, fun k s h => by simp [emptyI] at h, ?_, ?_, by simp [emptyI], by simp [emptyI], by simp [emptyI]⟩ <;> exact ⟨by decide, by decide⟩
end Go.Proofs.Ytgdiaaoekkdibaa
