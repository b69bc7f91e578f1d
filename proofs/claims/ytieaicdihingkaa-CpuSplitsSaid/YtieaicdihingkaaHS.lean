/- What CpuSplits and CpuSame hold of the world between their runs. -/
import Derived.Test.YtieaicdihingkaaHU
import Derived.Test.YtieaicdihingkaaV8
import Derived.Test.YtieaicdihingkaaPX
import Derived.Test.YtieaicdihingkaaS1
namespace Go.Proofs.Ytieaicdihingkaa
set_option linter.unusedVariables false
set_option linter.unusedSimpArgs false
open Go.RowKit
theorem run_Ok {E : Env} : ∀ (K : Nat) {V : World} {m : Mach} {sv ov : Value}, MachAt E V m sv ov → m.out.length + K ≤ 1000000000000 → (runM E K m).1.Ok
 | 0, V, m, sv, ov, h, _ => h.ok
 | K + 1, V, m, sv, ov, h, ho => by
  obtain ⟨e, w', _, hp, _⟩ := step_any h (by omega) []
  obtain ⟨_, hp⟩ := hp
  unfold runM
  cases hs : stepM E m with
  | ok m' =>
   rw [hs] at hp
   obtain ⟨_, sv', ov', hm⟩ := hp
   exact run_Ok K hm (by have := stepM_out hs; omega)
  | error t =>
   dsimp only
   split
   ·exact run_Ok K h (by omega)
   ·exact h.ok
theorem runM_outs {E : Env} : ∀ (K : Nat) (m : Mach), (runM E K m).1.out.length ≤ m.out.length + K
 | 0, m => Nat.le_refl _
 | K + 1, m => by
  unfold runM
  cases hs : stepM E m with
  | ok m' => have := runM_outs (E := E) K m'; have := stepM_out hs; dsimp only; omega
  | error t =>
   dsimp only
   split
   ·have := runM_outs (E := E) K m; omega
   ·dsimp only; omega
theorem run_OkN {w : World} {E : Env} {m : Mach} {S : ByteArray} {l : List Int} {ps po : Option Addr} (h : NormIn w E m S l ps po) (K : Nat) (ho : m.out.length + K ≤ 1000000000000) : (runM E K (normM m S l)).1.Ok := by
 obtain ⟨e, w', _, ⟨B, g, sv, ov, _, _, hm⟩, _⟩ := normal_any h l.length m.out.length (Nat.le_refl _) []
 have := run_Ok K hm ho
 rwa [runM_env] at this
/-- The image and the tape of a setup. -/
structure EnvIn (w : World) (E : Env) : Prop where
 img : ImgAt9 w E.pb E.banks E.vector
 tape : TapeAt w E.pin E.pirq E.cin E.cirq E.tin E.tirq
 entry : E.entry = 0
 rest : E.pd = none ∧ E.nd = 0 ∧ E.cd = 0 ∧ E.pr = none ∧ E.nr = 0 ∧ E.cr = 0
theorem StIn.norm {w : World} {E : Env} {m : Mach} {S : ByteArray} {l : List Int} {p1 p2 : Option Addr} {c1 c2 : Nat} (h : StIn w m S l p1 p2 c1 c2) (hE : EnvIn w E) : NormIn w E m S l p1 p2 := by
 obtain ⟨b1, h1⟩ := h.st
 obtain ⟨b2, h2⟩ := h.out
 obtain ⟨b3, h3⟩ := hE.tape.inp
 obtain ⟨b4, h4⟩ := hE.tape.irq
 have hl := hE.tape.len
 exact ⟨hE.img.strs, own_rowLow h3, own_rowLow h4, own_sliceAt h1, own_src h2, h.ok, h.spk, by rw [hE.img.nb]; decide, by rw [hE.entry]; exact ok16_0, hE.img.vec, by unfold maxLen; omega, by unfold maxLen; omega, hE.tape.oki, hE.tape.okq, by have := h.size; omega, h.len⟩
/-- A state that a run left. -/
theorem ran_st {w : World} {W0 : World} {E : Env} {m X : Mach} {S : ByteArray} {l : List Int} {ps po p1 p2 : Option Addr} {K c1 c2 : Nat} (h : NormIn w E m S l ps po) (ho : m.out.length + K ≤ 1000000000000) (hS : S.size ≤ 8192) (hX : (runM E K (normM m S l)).1 = X) {V : World} (hs : SnapIn W0 V X (.slice p1 X.st.length c1) (.slice p2 X.out.length c2)) : StIn V X (ramS X.ram) X.st p1 p2 c1 c2 ∧ normM X (ramS X.ram) X.st = X ∧ NormZ X ∧ X.out.length ≤ m.out.length + K := by
 have hok := run_OkN h K ho
 have hz := runM_nz (E := E) K (normM_nz m S l hS)
 have hou := runM_outs (E := E) K (normM m S l)
 rw [hX] at hok hz hou
 have hid := norm_id hok hz
 exact ⟨⟨⟨_, hs.st⟩, ⟨_, hs.out⟩, by rw [hid]; exact hok, hok.sp, by have := hok.len; omega, by rw [ramS_size]; decide⟩, hid, hz, hou⟩
/-- What the law knows of the world between its regions. -/
structure SpIn (w0 W : World) (E : Env) (bs : List Blk) : Prop where
 bel : Below w0.heap.size w0 W
 env : EnvIn W E
 blk : ∀ x ∈ bs, W.heap[x.1]? = some (.cells x.2.1 x.2.2 (0, 0)) ∧ w0.heap.size ≤ x.1
theorem EnvIn.next {w W : World} {E : Env} (h : EnvIn w E) (hb : Below w.heap.size w W) : EnvIn W E := ⟨h.img.next hb, h.tape.next hb, h.entry, h.rest⟩
theorem EnvIn.row {W V : World} {A : Nat} {c C : Array Value} {t : TypeId} {E : Env} (h : EnvIn W E) (hA : W.heap[A]? = some (.cells c t (0, 0))) (e : W.setRow A C = V) (hn : ∀ k, k < 3 → ∀ s, c[k]? ≠ some (.string s)) (ht : t ≠ 22 ∧ t ≠ 5) : EnvIn V E := ⟨h.img.row hA e hn, h.tape.row hA e ht, h.entry, h.rest⟩
theorem SpIn.next {w0 w W : World} {E : Env} {bs : List Blk} (h : SpIn w0 w E bs) (hb : Below w.heap.size w W) : SpIn w0 W E bs :=
 ⟨below_next h.bel hb, h.env.next hb, fun x hx => ⟨at_next hb (h.blk x hx).1, (h.blk x hx).2⟩⟩
theorem z46_no : ∀ k, k < 3 → ∀ s, (#[.int .i64 0, .int .u16 0] : Array Value)[k]? ≠ some (.string s) := fun k hk s => by
 match k, hk with
 | 0, _ => simp
 | 1, _ => simp
 | 2, _ => simp
/-- The state and the trap of a run are stored. -/
theorem SpIn.ran {w0 w w9 W1 W2 : World} {E : Env} {bs : List Blk} {C T : Array Value} (h : SpIn w0 w E bs) (hb : Below w.heap.size w w9)
  (e1 : ((w9.alloc (.cells #[.int .u16 0, .int .u16 0, .int .u16 0, .int .u16 0, .int .u16 0, .int .u16 0, .int .u16 0, .int .u16 0, .int .u16 0, .int .u16 0, .int .u16 0, .int .u16 0, .int .i64 0, .int .i64 0, .int .i64 0, .int .i64 0, .string ⟨#[]⟩, .slice none 0 0, .slice none 0 0] 43)).alloc (.cells #[.int .i64 0, .int .u16 0] 46)).setRow w9.heap.size C = W1) (e2 : W1.setRow (w9.heap.size + 1) T = W2) :
  SpIn w0 W2 E ((w9.heap.size, C, 43) :: (w9.heap.size + 1, T, 46) :: bs) ∧ ∀ {m : Mach} {S : ByteArray} {l : List Int} {p1 p2 : Option Addr} {c1 c2 : Nat}, StIn w9 m S l p1 p2 c1 c2 → StIn W2 m S l p1 p2 c1 c2 := by
 have h9 := h.next hb
 generalize eA : (w9.alloc _).alloc _ = WA at e1
 have hbA : Below w9.heap.size w9 WA := eA ▸ below_alloc (below1 w9 _) _
 have hA := h9.next hbA
 have b1 : WA.heap[w9.heap.size]? = some (.cells #[.int .u16 0, .int .u16 0, .int .u16 0, .int .u16 0, .int .u16 0, .int .u16 0, .int .u16 0, .int .u16 0, .int .u16 0, .int .u16 0, .int .u16 0, .int .u16 0, .int .i64 0, .int .i64 0, .int .i64 0, .int .i64 0, .string ⟨#[]⟩, .slice none 0 0, .slice none 0 0] 43 (0, 0)) := eA ▸ blk_mid1 w9 _ _
 have b2 : WA.heap[w9.heap.size + 1]? = some (.cells #[.int .i64 0, .int .u16 0] 46 (0, 0)) := by
  have h8 := alloc_at (w9.alloc (.cells #[.int .u16 0, .int .u16 0, .int .u16 0, .int .u16 0, .int .u16 0, .int .u16 0, .int .u16 0, .int .u16 0, .int .u16 0, .int .u16 0, .int .u16 0, .int .u16 0, .int .i64 0, .int .i64 0, .int .i64 0, .int .i64 0, .string ⟨#[]⟩, .slice none 0 0, .slice none 0 0] 43)) (.cells #[.int .i64 0, .int .u16 0] 46)
  rw [World.size_alloc] at h8
  exact eA ▸ h8
 have hl : w0.heap.size ≤ w9.heap.size := h9.bel.size
 have b3 : W1.heap[w9.heap.size + 1]? = some (.cells #[.int .i64 0, .int .u16 0] 46 (0, 0)) := sr_oth8 (by omega) b2 e1
 have hlt : ∀ x ∈ bs, x.1 < w9.heap.size := fun x hx => at_lt (h9.blk x hx).1
 refine ⟨⟨?_, ?_, fun x hx => ?_⟩, fun hs => ?_⟩
 ·subst e2; subst e1
  exact setRow_below (setRow_below hA.bel hl) (by omega)
 ·exact (hA.env.row b1 e1 z43_no (by decide)).row b3 e2 z46_no (by decide)
 ·rcases List.mem_cons.1 hx with rfl | hx
  ·exact ⟨sr_oth8 (by omega) (sr_blk8 b1 e1) e2, hl⟩
  rcases List.mem_cons.1 hx with rfl | hx
  ·exact ⟨sr_blk8 b3 e2, by show w0.heap.size ≤ w9.heap.size + 1; omega⟩
  ·have := hlt x hx
   exact ⟨sr_oth8 (by omega) (sr_oth8 (by omega) (hA.blk x hx).1 e1) e2, (h9.blk x hx).2⟩
 ·exact ((hs.next hbA).row b1 e1 (by decide)).row b3 e2 (by decide)
end Go.Proofs.Ytieaicdihingkaa
