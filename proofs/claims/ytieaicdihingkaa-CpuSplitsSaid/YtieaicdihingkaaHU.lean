/- A state in memory, between the law's runs. -/
import Derived.Test.YtieaicdihingkaaV8
import Derived.Test.YtieaicdihingkaaHK
namespace Go.Proofs.Ytieaicdihingkaa
set_option linter.unusedVariables false
set_option linter.unusedSimpArgs false
open Go.RowKit
/-- A state in memory: its stack and its events. -/
structure StIn (w : World) (m : Mach) (S : ByteArray) (l : List Int) (p1 p2 : Option Addr) (c1 c2 : Nat) : Prop where
 st : ∃ b, w.ownsRow b 22 1 (.slice p1 l.length c1) l.length (l.map (Value.int .u16))
 out : ∃ b, w.ownsRow b 54 2 (.slice p2 m.out.length c2) m.out.length (outC m.out)
 ok : (normM m S l).Ok
 spk : OkU16 m.sp
 len : l.length ≤ 1000000000000
 size : S.size ≤ 8192
theorem StIn.next {w W : World} {m : Mach} {S : ByteArray} {l : List Int} {p1 p2 : Option Addr} {c1 c2 : Nat} (h : StIn w m S l p1 p2 c1 c2) (hb : Below w.heap.size w W) : StIn W m S l p1 p2 c1 c2 :=
 ⟨h.st.imp fun b h => own_next h hb, h.out.imp fun b h => own_next h hb, h.ok, h.spk, h.len, h.size⟩
theorem StIn.row {W V : World} {A : Nat} {c C : Array Value} {t : TypeId} {m : Mach} {S : ByteArray} {l : List Int} {p1 p2 : Option Addr} {c1 c2 : Nat} (h : StIn W m S l p1 p2 c1 c2) (hA : W.heap[A]? = some (.cells c t (0, 0))) (e : W.setRow A C = V) (ht : t ≠ 22 ∧ t ≠ 54) : StIn V m S l p1 p2 c1 c2 := by
 subst e
 exact ⟨h.st.imp fun b h => row_any h hA ht.1, h.out.imp fun b h => row_any h hA ht.2, h.ok, h.spk, h.len, h.size⟩
theorem StIn.cap {w : World} {m : Mach} {S : ByteArray} {l : List Int} {p1 p2 : Option Addr} {c1 c2 : Nat} (h : StIn w m S l p1 p2 c1 c2) : l.length ≤ c1 := by
 obtain ⟨b, h⟩ := h.st
 rcases h.2 with ⟨e, h0⟩ | ⟨g, cap, cur, e1, hb, hg, hnc, hcm, hcs, ht⟩
 ·omega
 ·injection e1 with e1 e2 e3
  subst e3
  exact hnc
theorem StIn.normE {w : World} {m : Mach} {S : ByteArray} {l : List Int} {p1 p2 : Option Addr} {c1 c2 : Nat} (h : StIn w m S l p1 p2 c1 c2) : NormIn w emptyE m S l p1 p2 := by
 obtain ⟨b1, h1⟩ := h.st
 obtain ⟨b2, h2⟩ := h.out
 exact ⟨fun k s hk => (by cases hk), row_none _ _ _, row_none _ _ _, own_sliceAt h1, own_src h2, h.ok, h.spk, by decide, ok16_0, ok16_0, by decide, by decide, fun x hx => (by cases hx), fun x hx => (by cases hx), by have := h.size; omega, h.len⟩
abbrev Blk := Nat × Array Value × TypeId
end Go.Proofs.Ytieaicdihingkaa
