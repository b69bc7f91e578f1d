/- The contract of image.IsReloc. -/
import Derived.Test.YtgdiaaoekkdibaaI13
namespace Go.Proofs.Ytgdiaaoekkdibaa
set_option linter.unusedVariables false
set_option linter.unusedSimpArgs false
open Go.RowKit
theorem isRel_out (l : List RelI) (b a : Int) (h : ∀ r ∈ l, OkU16 r.off) (ha : a < 0 ∨ 65536 ≤ a) : isRel l b a = false := by
  unfold isRel
  rw [List.any_eq_false]
  intro r hr
  obtain ⟨h0, h1⟩ := h r hr
  unfold RelI.at
  simp
  omega
theorem rels_ok {w : World} {p : Option Addr} {l : List RelI} (h : RelsAt w p l) : ∀ r ∈ l, OkU16 r.off := by
  intro r hr
  obtain ⟨k, hk⟩ := List.getElem?_of_mem hr
  obtain ⟨_, _, _, _, _, _, ok⟩ := h k r hk
  exact ok
set_option maxHeartbeats 2000000 in
theorem isreloc_any (p1 : Option Addr) (c1 : Nat) (p2 : Option Addr) (c2 : Nat) (p3 : Option Addr) (c3 : Nat) (I : Img) (b a : Int) (w : World) (hI : ImgAt w p1 p2 p3 I) (hb : OkI64 b) (ha : OkI64 a) :
    Calls Try.prog 32 #[imgV p1 c1 p2 c2 p3 c3 I, .int .i64 b, .int .i64 a] w fun e w' => e = .returned (.bool (isRel I.relocs b a)) ∧ Below w.heap.size w w' := by
  obtain ⟨banks, entry, vector, data, l⟩ := I
  have hout := isRel_out l b a (rels_ok hI.relocs)
  have HI := Lib.hid hI
  have L3 := Lib.hid hI.l3
  clear hI
  show Calls Try.prog 32 #[.agg #[.slice p1 banks.length c1, .int .u16 entry, .int .u16 vector, .slice p2 data.length c2, .slice p3 l.length c3], .int .i64 b, .int .i64 a] w fun e w' => e = .returned (.bool (isRel l b a)) ∧ Below w.heap.size w w'
  by_cases h0 : a < 0
  · have HX := Lib.hid (hout (.inl h0))
    clear hout
    go_enter Try.func32, Try.ntmps32
    go_wp2_with fail
    go_ret
    exact ⟨by rw [HX.out]; rfl, below_alloc (below1 _ _) _⟩
  by_cases h1 : 65536 ≤ a
  · have HX := Lib.hid (hout (.inr h1))
    clear hout
    go_enter Try.func32, Try.ntmps32
    go_wp2_with fail
    go_ret
    exact ⟨by rw [HX.out]; rfl, below_alloc (below1 _ _) _⟩
  have hw : IntKind.u16.wrap a = a := wrap_in _ (by omega) (by omega)
  clear hout
  go_enter Try.func32, Try.ntmps32
  go_wp2_with (go_at_call 66; refine (containsr_any _ _ l b a _ _ _ L3.out (HI.out.kept (below_alloc (below1 _ _) _)).relocs (by simp [go_sem]) (by simp [go_sem]) (by simp) rfl).mono ?_; rintro e w2 ⟨rfl, h2⟩)
  go_ret
  exact ⟨rfl, below_next (below_alloc (below1 _ _) _) h2⟩
end Go.Proofs.Ytgdiaaoekkdibaa
