/- slices.Backward's closures. -/
import Derived.Test.YtmhjnndhphidfaaGreatA8
import Derived.RangeFuncNested
import Derived.RangeFuncBound
import Derived.RangeFuncCalls
import Derived.RangeFuncLeaves
import Derived.Shelf.Abstract
import Derived.Shelf.RegionOpen
import Derived.WalkKit
import Derived.OwnWalkIn
import Derived.TacticsInMore
import Derived.LoopNIn
import Derived.LoopIn
import Derived.Lib.Hide
import Derived.Test.YtmhjnndhphidfaaGreatProg
namespace Go.Ab
set_option maxRecDepth 8000
open Go.Proofs Go.RowKit Go.Shelf
set_option linter.unusedVariables false
set_option linter.unusedSimpArgs false
attribute [local go_sem] Oper.semAt_some
/-- What a round keeps. -/
def KpZ (n₀ : Nat) (Z : Nat → Prop) (W W' : World) : Prop := ∀ b, b < n₀ → ¬ Z b → W'.heap[b]? = W.heap[b]?
theorem KpZ.refl {n₀ : Nat} {Z : Nat → Prop} {W : World} : KpZ n₀ Z W W := fun _ _ _ => rfl
theorem KpZ.trans {n₀ : Nat} {Z : Nat → Prop} {A B C : World} (h : KpZ n₀ Z A B) (k : KpZ n₀ Z B C) : KpZ n₀ Z A C := fun b h1 h2 => (k b h1 h2).trans (h b h1 h2)
theorem KpZ.cell {n₀ : Nat} {Z : Nat → Prop} {A B : World} (h : KpZ n₀ Z A B) {p : Addr} (h1 : p.block < n₀) (h2 : ¬ Z p.block) : B.cell? p = A.cell? p := cell_of (h p.block h1 h2)
/-- The first k of m elements, the last one first. -/
def backTo (m k : Nat) : List Nat := (List.range k).map fun i => m - 1 - i
theorem backTo_succ (m k : Nat) : backTo m (k + 1) = backTo m k ++ [m - 1 - k] := by simp [backTo, List.range_succ]
theorem backTo_length (m k : Nat) : (backTo m k).length = k := by simp [backTo]
set_option maxRecDepth 100000 in
set_option maxHeartbeats 2000000 in
theorem b130 (n l Bs n₀ b off m cap : Nat) (Z : Nat → Prop) (f : Nat → Nat → Value) (hm : m ≤ 1000000000000) (hBs : Bs < n₀) (hZs : ¬ Z Bs) (hb : b < n₀) (hZb : ¬ Z b) (J Jx : List Nat → World → Prop)
    (hY : ∀ pre x W, J pre W → pre.length < m → x = m - 1 - pre.length → YieldAt Fence.wide n Tryz.prog l #[.int .i64 (x : Int), .agg #[f x 0, f x 1, f x 2]] W fun e W' =>
      (e = .returned (.bool true) ∧ J (pre ++ [x]) W' ∧ KpZ n₀ Z W W') ∨ (e = .returned (.bool false) ∧ Jx (pre ++ [x]) W'))
    (W : World) (hBox : W.cell? ⟨Bs, 0, none⟩ = some (.slice (some ⟨b, off, none⟩) m cap)) (hc : ∀ j q, j < m → q < 3 → W.cell? ⟨b, off + j * 3 + q, none⟩ = some (f j q)) (h0 : J [] W) :
    CallsIn Fence.wide (n + 1) Tryz.prog 138 #[.func (.yield l) #[] #[], .pointer (some ⟨Bs, 0, none⟩)] W fun e W' => (∃ v, e = .returned v) ∧ (J (backTo m m) W' ∨ ∃ pre, Jx pre W') := by
  refine callsIn_of_wp Tryz.func138 rfl trivial ?_ rfl
  simp only [Tryz.ntmps138, List.size_toArray, List.length_cons, List.length_nil, Nat.reduceAdd, Nat.reduceSub, Array.replicate_succ, Array.replicate_zero, List.push_toArray, List.append_toArray, List.nil_append, List.cons_append]
  gi_wp2
  gi_loopw [3] (fun i wr => ∃ k : Nat, k ≤ m ∧ i = .int .i64 ((m : Int) - 1 - k) ∧ J (backTo m k) wr ∧ KpZ n₀ Z W wr) (fun i _ => (intOf i + 1).toNat)
  case atStart => exact ⟨0, Nat.zero_le _, by simp, h0, .refl⟩
  case round =>
    obtain ⟨k, hk, rfl, hJs, hnx⟩ := hrel
    have hBox' : wr.cell? ⟨Bs, 0, none⟩ = some (.slice (some ⟨b, off, none⟩) m cap) := (hnx.cell (p := ⟨Bs, 0, none⟩) hBs hZs).trans hBox
    by_cases hlt : k < m
    · obtain ⟨p, hp⟩ : ∃ p, p = m - 1 - k := ⟨_, rfl⟩
      have hpm : p < m := by omega
      have hi : ((m : Int) - 1 - k) = (p : Int) := by omega
      rw [hi]
      have c0 : wr.cell? ⟨b, off + p * 3, none⟩ = some (f p 0) := (hnx.cell (p := ⟨b, off + p * 3, none⟩) hb hZb).trans (hc p 0 hpm (by decide))
      have c1 : wr.cell? ⟨b, off + p * 3 + 1, none⟩ = some (f p 1) := (hnx.cell (p := ⟨b, off + p * 3 + 1, none⟩) hb hZb).trans (hc p 1 hpm (by decide))
      have c2 : wr.cell? ⟨b, off + p * 3 + 2, none⟩ = some (f p 2) := (hnx.cell (p := ⟨b, off + p * 3 + 2, none⟩) hb hZb).trans (hc p 2 hpm (by decide))
      obtain ⟨fn, tmps, assign, body, hy, hR⟩ := hY _ p wr hJs (by rw [backTo_length]; exact hlt) (by rw [backTo_length]; exact hp)
      have HP : Hid (p + 1 + k = m) := Lib.hid (by omega)
      clear hp hi
      gi_wp2
      refine hR.mono ?_
      rintro e W3 (⟨rfl, hJ3, hk3⟩ | ⟨rfl, hJx3⟩)
      · gi_wp2
        go_roundw
        case rel => exact ⟨k + 1, by have := HP.out; omega, by have := HP.out; simp; omega, by rw [backTo_succ, show m - 1 - k = p by have := HP.out; omega]; exact hJ3, hnx.trans hk3⟩
        case measure => simp [intOf]
      · gi_wp2
        refine bodyPost_ret (results_none rfl _ _ _) rfl ?_
        exact ⟨⟨_, rfl⟩, .inr ⟨_, hJx3⟩⟩
    · obtain rfl : k = m := by omega
      have hi : ((k : Int) - 1 - k) = -1 := by omega
      rw [hi]
      gi_wp2
      go_end0
      exact ⟨⟨_, rfl⟩, .inl hJs⟩
set_option maxRecDepth 100000 in
set_option maxHeartbeats 2000000 in
theorem b130n (n l Bs : Nat) (ad : Option Addr) (cap : Nat) (J : World → Prop) (W : World) (hBox : W.cell? ⟨Bs, 0, none⟩ = some (.slice ad 0 cap)) (h0 : J W) :
    CallsIn Fence.wide (n + 1) Tryz.prog 138 #[.func (.yield l) #[] #[], .pointer (some ⟨Bs, 0, none⟩)] W fun e W' => (∃ v, e = .returned v) ∧ J W' := by
  refine callsIn_of_wp Tryz.func138 rfl trivial ?_ rfl
  simp only [Tryz.ntmps138, List.size_toArray, List.length_cons, List.length_nil, Nat.reduceAdd, Nat.reduceSub, Array.replicate_succ, Array.replicate_zero, List.push_toArray, List.append_toArray, List.nil_append, List.cons_append]
  gi_wp2
  gi_loopw [3] (fun i wr => i = .int .i64 (-1) ∧ J wr) (fun i _ => 0)
  case atStart => exact ⟨rfl, h0⟩
  case round =>
    obtain ⟨rfl, hJs⟩ := hrel
    gi_wp2
    go_end0
    exact ⟨⟨_, rfl⟩, hJs⟩
/-- What comes of a slice, the last one first. -/
theorem b130_seq {Bs n₀ m cap : Nat} {ad : Option Addr} {Z : Nat → Prop} {f : Nat → Nat → Value} {W0 : World} (hn : n₀ ≤ W0.heap.size) (hm : m ≤ 1000000000000) (hBs : Bs < n₀) (hZs : ¬ Z Bs) (hBox : W0.cell? ⟨Bs, 0, none⟩ = some (.slice ad m cap))
    (hl : m = 0 ∨ ∃ b off, ad = some ⟨b, off, none⟩ ∧ b < n₀ ∧ ¬ Z b ∧ ∀ j q, j < m → q < 3 → W0.cell? ⟨b, off + j * 3 + q, none⟩ = some (f j q)) :
    SeqStopsK Fence.wide (3 - 1) Tryz.prog 138 #[.pointer (some ⟨Bs, 0, none⟩)] (fun j : Fin m => #[.int .i64 (j.val : Int), .agg #[f j 0, f j 1, f j 2]]) (KpZ n₀ Z) (fun xs => xs.map Fin.val = backTo m m) (fun _ => True) m W0 := by
  intro l J Jx W hW _ _ hY h0
  have hold : ∀ {a : Addr} {v : Value}, a.block < n₀ → W0.cell? a = some v → W.cell? a = some v := fun {a v} ha hc => (hW.cell (p := a) (by omega)).trans hc
  rcases hl with rfl | ⟨b, off, rfl, hb, hZb, hc⟩
  · refine (b130n 1 l Bs ad cap (J []) W (hold (a := ⟨Bs, 0, none⟩) hBs hBox) h0).mono ?_
    rintro e W' ⟨he, hJ⟩
    exact ⟨he, .inl ⟨[], rfl, hJ⟩⟩
  · refine (b130 1 l Bs n₀ b off m cap Z f hm hBs hZs hb hZb (fun pre W => ∃ p : List (Fin m), p.map Fin.val = pre ∧ J p W) (fun _ W => ∃ p, Jx p W) ?_ W (hold (a := ⟨Bs, 0, none⟩) hBs hBox) (fun j q h1 h2 => hold (a := ⟨b, off + j * 3 + q, none⟩) hb (hc j q h1 h2)) ⟨[], rfl, h0⟩).mono ?_
    · rintro pre x W1 ⟨p, rfl, hJ⟩ hlen hx
      rw [List.length_map] at hlen hx
      have hxm : x < m := by omega
      obtain ⟨fn, tmps, assign, body, h1, h2⟩ := hY p ⟨x, hxm⟩ W1 hJ hlen
      refine ⟨fn, tmps, assign, body, h1, h2.mono ?_⟩
      rintro e W' (⟨h1, h2, h3⟩ | ⟨h1, h2⟩)
      · exact .inl ⟨h1, ⟨_, by simp, h2⟩, h3⟩
      · exact .inr ⟨h1, _, h2⟩
    · rintro e W' ⟨he, ⟨p, h1, h2⟩ | ⟨_, p, hp⟩⟩
      · exact ⟨he, .inl ⟨p, h1, h2⟩⟩
      · exact ⟨he, .inr ⟨p, trivial, hp⟩⟩
set_option maxRecDepth 100000 in
set_option maxHeartbeats 2000000 in
theorem b131 (n l Bs n₀ b off m cap : Nat) (Z : Nat → Prop) (f : Nat → Nat → Value) (hm : m ≤ 1000000000000) (hBs : Bs < n₀) (hZs : ¬ Z Bs) (hb : b < n₀) (hZb : ¬ Z b) (J Jx : List Nat → World → Prop)
    (hY : ∀ pre x W, J pre W → pre.length < m → x = m - 1 - pre.length → YieldAt Fence.wide n Tryz.prog l #[.int .i64 (x : Int), .agg #[f x 0, f x 1, f x 2, f x 3, f x 4, f x 5, f x 6, f x 7]] W fun e W' =>
      (e = .returned (.bool true) ∧ J (pre ++ [x]) W' ∧ KpZ n₀ Z W W') ∨ (e = .returned (.bool false) ∧ Jx (pre ++ [x]) W'))
    (W : World) (hBox : W.cell? ⟨Bs, 0, none⟩ = some (.slice (some ⟨b, off, none⟩) m cap)) (hc : ∀ j q, j < m → q < 8 → W.cell? ⟨b, off + j * 8 + q, none⟩ = some (f j q)) (h0 : J [] W) :
    CallsIn Fence.wide (n + 1) Tryz.prog 139 #[.func (.yield l) #[] #[], .pointer (some ⟨Bs, 0, none⟩)] W fun e W' => (∃ v, e = .returned v) ∧ (J (backTo m m) W' ∨ ∃ pre, Jx pre W') := by
  refine callsIn_of_wp Tryz.func139 rfl trivial ?_ rfl
  simp only [Tryz.ntmps139, List.size_toArray, List.length_cons, List.length_nil, Nat.reduceAdd, Nat.reduceSub, Array.replicate_succ, Array.replicate_zero, List.push_toArray, List.append_toArray, List.nil_append, List.cons_append]
  gi_wp2
  gi_loopw [3] (fun i wr => ∃ k : Nat, k ≤ m ∧ i = .int .i64 ((m : Int) - 1 - k) ∧ J (backTo m k) wr ∧ KpZ n₀ Z W wr) (fun i _ => (intOf i + 1).toNat)
  case atStart => exact ⟨0, Nat.zero_le _, by simp, h0, .refl⟩
  case round =>
    obtain ⟨k, hk, rfl, hJs, hnx⟩ := hrel
    have hBox' : wr.cell? ⟨Bs, 0, none⟩ = some (.slice (some ⟨b, off, none⟩) m cap) := (hnx.cell (p := ⟨Bs, 0, none⟩) hBs hZs).trans hBox
    by_cases hlt : k < m
    · obtain ⟨p, hp⟩ : ∃ p, p = m - 1 - k := ⟨_, rfl⟩
      have hpm : p < m := by omega
      have hi : ((m : Int) - 1 - k) = (p : Int) := by omega
      rw [hi]
      have c0 : wr.cell? ⟨b, off + p * 8, none⟩ = some (f p 0) := (hnx.cell (p := ⟨b, off + p * 8, none⟩) hb hZb).trans (hc p 0 hpm (by decide))
      have c1 : wr.cell? ⟨b, off + p * 8 + 1, none⟩ = some (f p 1) := (hnx.cell (p := ⟨b, off + p * 8 + 1, none⟩) hb hZb).trans (hc p 1 hpm (by decide))
      have c2 : wr.cell? ⟨b, off + p * 8 + 2, none⟩ = some (f p 2) := (hnx.cell (p := ⟨b, off + p * 8 + 2, none⟩) hb hZb).trans (hc p 2 hpm (by decide))
      have c3 : wr.cell? ⟨b, off + p * 8 + 3, none⟩ = some (f p 3) := (hnx.cell (p := ⟨b, off + p * 8 + 3, none⟩) hb hZb).trans (hc p 3 hpm (by decide))
      have c4 : wr.cell? ⟨b, off + p * 8 + 4, none⟩ = some (f p 4) := (hnx.cell (p := ⟨b, off + p * 8 + 4, none⟩) hb hZb).trans (hc p 4 hpm (by decide))
      have c5 : wr.cell? ⟨b, off + p * 8 + 5, none⟩ = some (f p 5) := (hnx.cell (p := ⟨b, off + p * 8 + 5, none⟩) hb hZb).trans (hc p 5 hpm (by decide))
      have c6 : wr.cell? ⟨b, off + p * 8 + 6, none⟩ = some (f p 6) := (hnx.cell (p := ⟨b, off + p * 8 + 6, none⟩) hb hZb).trans (hc p 6 hpm (by decide))
      have c7 : wr.cell? ⟨b, off + p * 8 + 7, none⟩ = some (f p 7) := (hnx.cell (p := ⟨b, off + p * 8 + 7, none⟩) hb hZb).trans (hc p 7 hpm (by decide))
      obtain ⟨fn, tmps, assign, body, hy, hR⟩ := hY _ p wr hJs (by rw [backTo_length]; exact hlt) (by rw [backTo_length]; exact hp)
      have HP : Hid (p + 1 + k = m) := Lib.hid (by omega)
      clear hp hi
      gi_wp2
      refine hR.mono ?_
      rintro e W3 (⟨rfl, hJ3, hk3⟩ | ⟨rfl, hJx3⟩)
      · gi_wp2
        go_roundw
        case rel => exact ⟨k + 1, by have := HP.out; omega, by have := HP.out; simp; omega, by rw [backTo_succ, show m - 1 - k = p by have := HP.out; omega]; exact hJ3, hnx.trans hk3⟩
        case measure => simp [intOf]
      · gi_wp2
        refine bodyPost_ret (results_none rfl _ _ _) rfl ?_
        exact ⟨⟨_, rfl⟩, .inr ⟨_, hJx3⟩⟩
    · obtain rfl : k = m := by omega
      have hi : ((k : Int) - 1 - k) = -1 := by omega
      rw [hi]
      gi_wp2
      go_end0
      exact ⟨⟨_, rfl⟩, .inl hJs⟩
set_option maxRecDepth 100000 in
set_option maxHeartbeats 2000000 in
theorem b131n (n l Bs : Nat) (ad : Option Addr) (cap : Nat) (J : World → Prop) (W : World) (hBox : W.cell? ⟨Bs, 0, none⟩ = some (.slice ad 0 cap)) (h0 : J W) :
    CallsIn Fence.wide (n + 1) Tryz.prog 139 #[.func (.yield l) #[] #[], .pointer (some ⟨Bs, 0, none⟩)] W fun e W' => (∃ v, e = .returned v) ∧ J W' := by
  refine callsIn_of_wp Tryz.func139 rfl trivial ?_ rfl
  simp only [Tryz.ntmps139, List.size_toArray, List.length_cons, List.length_nil, Nat.reduceAdd, Nat.reduceSub, Array.replicate_succ, Array.replicate_zero, List.push_toArray, List.append_toArray, List.nil_append, List.cons_append]
  gi_wp2
  gi_loopw [3] (fun i wr => i = .int .i64 (-1) ∧ J wr) (fun i _ => 0)
  case atStart => exact ⟨rfl, h0⟩
  case round =>
    obtain ⟨rfl, hJs⟩ := hrel
    gi_wp2
    go_end0
    exact ⟨⟨_, rfl⟩, hJs⟩
/-- What comes of a slice, the last one first. -/
theorem b131_seq {Bs n₀ m cap : Nat} {ad : Option Addr} {Z : Nat → Prop} {f : Nat → Nat → Value} {W0 : World} (hn : n₀ ≤ W0.heap.size) (hm : m ≤ 1000000000000) (hBs : Bs < n₀) (hZs : ¬ Z Bs) (hBox : W0.cell? ⟨Bs, 0, none⟩ = some (.slice ad m cap))
    (hl : m = 0 ∨ ∃ b off, ad = some ⟨b, off, none⟩ ∧ b < n₀ ∧ ¬ Z b ∧ ∀ j q, j < m → q < 8 → W0.cell? ⟨b, off + j * 8 + q, none⟩ = some (f j q)) :
    SeqStopsK Fence.wide (3 - 1) Tryz.prog 139 #[.pointer (some ⟨Bs, 0, none⟩)] (fun j : Fin m => #[.int .i64 (j.val : Int), .agg #[f j 0, f j 1, f j 2, f j 3, f j 4, f j 5, f j 6, f j 7]]) (KpZ n₀ Z) (fun xs => xs.map Fin.val = backTo m m) (fun _ => True) m W0 := by
  intro l J Jx W hW _ _ hY h0
  have hold : ∀ {a : Addr} {v : Value}, a.block < n₀ → W0.cell? a = some v → W.cell? a = some v := fun {a v} ha hc => (hW.cell (p := a) (by omega)).trans hc
  rcases hl with rfl | ⟨b, off, rfl, hb, hZb, hc⟩
  · refine (b131n 1 l Bs ad cap (J []) W (hold (a := ⟨Bs, 0, none⟩) hBs hBox) h0).mono ?_
    rintro e W' ⟨he, hJ⟩
    exact ⟨he, .inl ⟨[], rfl, hJ⟩⟩
  · refine (b131 1 l Bs n₀ b off m cap Z f hm hBs hZs hb hZb (fun pre W => ∃ p : List (Fin m), p.map Fin.val = pre ∧ J p W) (fun _ W => ∃ p, Jx p W) ?_ W (hold (a := ⟨Bs, 0, none⟩) hBs hBox) (fun j q h1 h2 => hold (a := ⟨b, off + j * 8 + q, none⟩) hb (hc j q h1 h2)) ⟨[], rfl, h0⟩).mono ?_
    · rintro pre x W1 ⟨p, rfl, hJ⟩ hlen hx
      rw [List.length_map] at hlen hx
      have hxm : x < m := by omega
      obtain ⟨fn, tmps, assign, body, h1, h2⟩ := hY p ⟨x, hxm⟩ W1 hJ hlen
      refine ⟨fn, tmps, assign, body, h1, h2.mono ?_⟩
      rintro e W' (⟨h1, h2, h3⟩ | ⟨h1, h2⟩)
      · exact .inl ⟨h1, ⟨_, by simp, h2⟩, h3⟩
      · exact .inr ⟨h1, _, h2⟩
    · rintro e W' ⟨he, ⟨p, h1, h2⟩ | ⟨_, p, hp⟩⟩
      · exact ⟨he, .inl ⟨p, h1, h2⟩⟩
      · exact ⟨he, .inr ⟨p, trivial, hp⟩⟩
set_option maxRecDepth 100000 in
set_option maxHeartbeats 2000000 in
theorem b132 (n l Bs n₀ b off m cap : Nat) (Z : Nat → Prop) (f : Nat → Nat → Value) (hm : m ≤ 1000000000000) (hBs : Bs < n₀) (hZs : ¬ Z Bs) (hb : b < n₀) (hZb : ¬ Z b) (J Jx : List Nat → World → Prop)
    (hY : ∀ pre x W, J pre W → pre.length < m → x = m - 1 - pre.length → YieldAt Fence.wide n Tryz.prog l #[.int .i64 (x : Int), .agg #[f x 0, f x 1, f x 2, f x 3, f x 4, f x 5, f x 6, f x 7, f x 8, f x 9]] W fun e W' =>
      (e = .returned (.bool true) ∧ J (pre ++ [x]) W' ∧ KpZ n₀ Z W W') ∨ (e = .returned (.bool false) ∧ Jx (pre ++ [x]) W'))
    (W : World) (hBox : W.cell? ⟨Bs, 0, none⟩ = some (.slice (some ⟨b, off, none⟩) m cap)) (hc : ∀ j q, j < m → q < 10 → W.cell? ⟨b, off + j * 10 + q, none⟩ = some (f j q)) (h0 : J [] W) :
    CallsIn Fence.wide (n + 1) Tryz.prog 140 #[.func (.yield l) #[] #[], .pointer (some ⟨Bs, 0, none⟩)] W fun e W' => (∃ v, e = .returned v) ∧ (J (backTo m m) W' ∨ ∃ pre, Jx pre W') := by
  refine callsIn_of_wp Tryz.func140 rfl trivial ?_ rfl
  simp only [Tryz.ntmps140, List.size_toArray, List.length_cons, List.length_nil, Nat.reduceAdd, Nat.reduceSub, Array.replicate_succ, Array.replicate_zero, List.push_toArray, List.append_toArray, List.nil_append, List.cons_append]
  gi_wp2
  gi_loopw [3] (fun i wr => ∃ k : Nat, k ≤ m ∧ i = .int .i64 ((m : Int) - 1 - k) ∧ J (backTo m k) wr ∧ KpZ n₀ Z W wr) (fun i _ => (intOf i + 1).toNat)
  case atStart => exact ⟨0, Nat.zero_le _, by simp, h0, .refl⟩
  case round =>
    obtain ⟨k, hk, rfl, hJs, hnx⟩ := hrel
    have hBox' : wr.cell? ⟨Bs, 0, none⟩ = some (.slice (some ⟨b, off, none⟩) m cap) := (hnx.cell (p := ⟨Bs, 0, none⟩) hBs hZs).trans hBox
    by_cases hlt : k < m
    · obtain ⟨p, hp⟩ : ∃ p, p = m - 1 - k := ⟨_, rfl⟩
      have hpm : p < m := by omega
      have hi : ((m : Int) - 1 - k) = (p : Int) := by omega
      rw [hi]
      have c0 : wr.cell? ⟨b, off + p * 10, none⟩ = some (f p 0) := (hnx.cell (p := ⟨b, off + p * 10, none⟩) hb hZb).trans (hc p 0 hpm (by decide))
      have c1 : wr.cell? ⟨b, off + p * 10 + 1, none⟩ = some (f p 1) := (hnx.cell (p := ⟨b, off + p * 10 + 1, none⟩) hb hZb).trans (hc p 1 hpm (by decide))
      have c2 : wr.cell? ⟨b, off + p * 10 + 2, none⟩ = some (f p 2) := (hnx.cell (p := ⟨b, off + p * 10 + 2, none⟩) hb hZb).trans (hc p 2 hpm (by decide))
      have c3 : wr.cell? ⟨b, off + p * 10 + 3, none⟩ = some (f p 3) := (hnx.cell (p := ⟨b, off + p * 10 + 3, none⟩) hb hZb).trans (hc p 3 hpm (by decide))
      have c4 : wr.cell? ⟨b, off + p * 10 + 4, none⟩ = some (f p 4) := (hnx.cell (p := ⟨b, off + p * 10 + 4, none⟩) hb hZb).trans (hc p 4 hpm (by decide))
      have c5 : wr.cell? ⟨b, off + p * 10 + 5, none⟩ = some (f p 5) := (hnx.cell (p := ⟨b, off + p * 10 + 5, none⟩) hb hZb).trans (hc p 5 hpm (by decide))
      have c6 : wr.cell? ⟨b, off + p * 10 + 6, none⟩ = some (f p 6) := (hnx.cell (p := ⟨b, off + p * 10 + 6, none⟩) hb hZb).trans (hc p 6 hpm (by decide))
      have c7 : wr.cell? ⟨b, off + p * 10 + 7, none⟩ = some (f p 7) := (hnx.cell (p := ⟨b, off + p * 10 + 7, none⟩) hb hZb).trans (hc p 7 hpm (by decide))
      have c8 : wr.cell? ⟨b, off + p * 10 + 8, none⟩ = some (f p 8) := (hnx.cell (p := ⟨b, off + p * 10 + 8, none⟩) hb hZb).trans (hc p 8 hpm (by decide))
      have c9 : wr.cell? ⟨b, off + p * 10 + 9, none⟩ = some (f p 9) := (hnx.cell (p := ⟨b, off + p * 10 + 9, none⟩) hb hZb).trans (hc p 9 hpm (by decide))
      obtain ⟨fn, tmps, assign, body, hy, hR⟩ := hY _ p wr hJs (by rw [backTo_length]; exact hlt) (by rw [backTo_length]; exact hp)
      have HP : Hid (p + 1 + k = m) := Lib.hid (by omega)
      clear hp hi
      gi_wp2
      refine hR.mono ?_
      rintro e W3 (⟨rfl, hJ3, hk3⟩ | ⟨rfl, hJx3⟩)
      · gi_wp2
        go_roundw
        case rel => exact ⟨k + 1, by have := HP.out; omega, by have := HP.out; simp; omega, by rw [backTo_succ, show m - 1 - k = p by have := HP.out; omega]; exact hJ3, hnx.trans hk3⟩
        case measure => simp [intOf]
      · gi_wp2
        refine bodyPost_ret (results_none rfl _ _ _) rfl ?_
        exact ⟨⟨_, rfl⟩, .inr ⟨_, hJx3⟩⟩
    · obtain rfl : k = m := by omega
      have hi : ((k : Int) - 1 - k) = -1 := by omega
      rw [hi]
      gi_wp2
      go_end0
      exact ⟨⟨_, rfl⟩, .inl hJs⟩
set_option maxRecDepth 100000 in
set_option maxHeartbeats 2000000 in
theorem b132n (n l Bs : Nat) (ad : Option Addr) (cap : Nat) (J : World → Prop) (W : World) (hBox : W.cell? ⟨Bs, 0, none⟩ = some (.slice ad 0 cap)) (h0 : J W) :
    CallsIn Fence.wide (n + 1) Tryz.prog 140 #[.func (.yield l) #[] #[], .pointer (some ⟨Bs, 0, none⟩)] W fun e W' => (∃ v, e = .returned v) ∧ J W' := by
  refine callsIn_of_wp Tryz.func140 rfl trivial ?_ rfl
  simp only [Tryz.ntmps140, List.size_toArray, List.length_cons, List.length_nil, Nat.reduceAdd, Nat.reduceSub, Array.replicate_succ, Array.replicate_zero, List.push_toArray, List.append_toArray, List.nil_append, List.cons_append]
  gi_wp2
  gi_loopw [3] (fun i wr => i = .int .i64 (-1) ∧ J wr) (fun i _ => 0)
  case atStart => exact ⟨rfl, h0⟩
  case round =>
    obtain ⟨rfl, hJs⟩ := hrel
    gi_wp2
    go_end0
    exact ⟨⟨_, rfl⟩, hJs⟩
/-- What comes of a slice, the last one first. -/
theorem b132_seq {Bs n₀ m cap : Nat} {ad : Option Addr} {Z : Nat → Prop} {f : Nat → Nat → Value} {W0 : World} (hn : n₀ ≤ W0.heap.size) (hm : m ≤ 1000000000000) (hBs : Bs < n₀) (hZs : ¬ Z Bs) (hBox : W0.cell? ⟨Bs, 0, none⟩ = some (.slice ad m cap))
    (hl : m = 0 ∨ ∃ b off, ad = some ⟨b, off, none⟩ ∧ b < n₀ ∧ ¬ Z b ∧ ∀ j q, j < m → q < 10 → W0.cell? ⟨b, off + j * 10 + q, none⟩ = some (f j q)) :
    SeqStopsK Fence.wide (3 - 1) Tryz.prog 140 #[.pointer (some ⟨Bs, 0, none⟩)] (fun j : Fin m => #[.int .i64 (j.val : Int), .agg #[f j 0, f j 1, f j 2, f j 3, f j 4, f j 5, f j 6, f j 7, f j 8, f j 9]]) (KpZ n₀ Z) (fun xs => xs.map Fin.val = backTo m m) (fun _ => True) m W0 := by
  intro l J Jx W hW _ _ hY h0
  have hold : ∀ {a : Addr} {v : Value}, a.block < n₀ → W0.cell? a = some v → W.cell? a = some v := fun {a v} ha hc => (hW.cell (p := a) (by omega)).trans hc
  rcases hl with rfl | ⟨b, off, rfl, hb, hZb, hc⟩
  · refine (b132n 1 l Bs ad cap (J []) W (hold (a := ⟨Bs, 0, none⟩) hBs hBox) h0).mono ?_
    rintro e W' ⟨he, hJ⟩
    exact ⟨he, .inl ⟨[], rfl, hJ⟩⟩
  · refine (b132 1 l Bs n₀ b off m cap Z f hm hBs hZs hb hZb (fun pre W => ∃ p : List (Fin m), p.map Fin.val = pre ∧ J p W) (fun _ W => ∃ p, Jx p W) ?_ W (hold (a := ⟨Bs, 0, none⟩) hBs hBox) (fun j q h1 h2 => hold (a := ⟨b, off + j * 10 + q, none⟩) hb (hc j q h1 h2)) ⟨[], rfl, h0⟩).mono ?_
    · rintro pre x W1 ⟨p, rfl, hJ⟩ hlen hx
      rw [List.length_map] at hlen hx
      have hxm : x < m := by omega
      obtain ⟨fn, tmps, assign, body, h1, h2⟩ := hY p ⟨x, hxm⟩ W1 hJ hlen
      refine ⟨fn, tmps, assign, body, h1, h2.mono ?_⟩
      rintro e W' (⟨h1, h2, h3⟩ | ⟨h1, h2⟩)
      · exact .inl ⟨h1, ⟨_, by simp, h2⟩, h3⟩
      · exact .inr ⟨h1, _, h2⟩
    · rintro e W' ⟨he, ⟨p, h1, h2⟩ | ⟨_, p, hp⟩⟩
      · exact ⟨he, .inl ⟨p, h1, h2⟩⟩
      · exact ⟨he, .inr ⟨p, trivial, hp⟩⟩
end Go.Ab
