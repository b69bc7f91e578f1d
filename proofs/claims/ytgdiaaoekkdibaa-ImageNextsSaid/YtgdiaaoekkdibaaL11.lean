/- ImageNexts: the walk of the law. -/
import Derived.Test.YtgdiaaoekkdibaaE3
import Derived.Test.YtgdiaaoekkdibaaI11
import Derived.Test.YtgdiaaoekkdibaaE1
namespace Go.Proofs.Ytgdiaaoekkdibaa
set_option linter.unusedVariables false
set_option linter.unusedSimpArgs false
open Go.RowKit
theorem nextI_back (b a n : Int) (ha : 0 ≤ a) (h : isCode b a) (h1 : -(a % 4096) ≤ n) (h2 : n < 4096 - a % 4096) : nextI b (a + n) (-n) = (b, a, true) := by
  have e : (a + n) % 4096 = a % 4096 + n := by omega
  have hc : isCode b (a + n) := by unfold isCode at *; omega
  rw [nextI_yes b (a + n) (-n) hc (by omega) (by omega)]
  congr 1
  congr 1
  omega
theorem next_no (b a n : Int) (w : World) (hb : OkI64 b) (ha : OkU16 a) (hn : OkI64 n) (h : nextI b a n = (0, 0, false)) :
    Calls Try.prog 34 #[.agg #[.int .i64 b, .int .u16 a], .int .i64 n] w fun e w' => e = .returned (.tuple #[.agg #[.int .i64 0, .int .u16 0], .bool false]) ∧ Below w.heap.size w w' := by
  have c := next_any b a n w hb ha hn; rw [h] at c; exact c
theorem rnext_no (b a n : Int) (w : World) (hb : OkI64 b) (ha : OkU16 a) (hn : OkI64 n) (h : nextI b a n = (0, 0, false)) :
    Calls Try.prog 35 #[.agg #[.int .i64 b, .int .u16 a], .int .i64 n] w fun e w' => e = .returned (.tuple #[.agg #[.int .i64 0, .int .u16 0], .bool false]) ∧ Below w.heap.size w w' := by
  have c := rnext_any b a n w hb ha hn; rw [h] at c; exact c
theorem next_yes (b a n x : Int) (w : World) (hb : OkI64 b) (ha : OkU16 a) (hn : OkI64 n) (h : nextI b a n = (b, x, true)) :
    Calls Try.prog 34 #[.agg #[.int .i64 b, .int .u16 a], .int .i64 n] w fun e w' => e = .returned (.tuple #[.agg #[.int .i64 b, .int .u16 x], .bool true]) ∧ Below w.heap.size w w' := by
  have c := next_any b a n w hb ha hn; rw [h] at c; exact c
theorem rnext_yes (b a n x : Int) (w : World) (hb : OkI64 b) (ha : OkU16 a) (hn : OkI64 n) (h : nextI b a n = (b, x, true)) :
    Calls Try.prog 35 #[.agg #[.int .i64 b, .int .u16 a], .int .i64 n] w fun e w' => e = .returned (.tuple #[.agg #[.int .i64 b, .int .u16 x], .bool true]) ∧ Below w.heap.size w w' := by
  have c := rnext_any b a n w hb ha hn; rw [h] at c; exact c
set_option maxRecDepth 8000 in
set_option maxHeartbeats 1600000 in
theorem imageNexts_walk (b a n : Int) (w : World) (b0 : -9223372036854775808 ≤ b) (b1 : b ≤ 9223372036854775807) (a0 : 0 ≤ a) (a1 : a < 65536) (n0 : -9223372036854775808 ≤ n) (n1 : n ≤ 9223372036854775807) :
    Calls Try.prog 11 #[.int .i64 b, .int .u16 a, .int .i64 n] w fun e w' => e = .returned (.bool true) ∧ Below w.heap.size w w' := by
  have ht : a.tmod 4096 = a % 4096 := Int.tmod_eq_emod_of_nonneg a0
  have hw : IntKind.u16.wrap (a % 4096) = a % 4096 := wrap_in _ (by omega) (by omega)
  have hw2 : IntKind.u16.wrap (4096 + a % 4096) = 4096 + a % 4096 := wrap_in _ (by omega) (by omega)
  go_enter Try.func11, Try.ntmps11
  go_wp2_with fail
  refine (sanity_any _).mono ?_
  rintro e w1 ⟨rfl, h1⟩
  go_wp2_with fail
  refine (mod_any b 64 _ ⟨b0, b1⟩ (by decide) (by decide)).mono ?_
  rintro e w' ⟨rfl, rfl⟩
  go_wp2_with fail
  have HC : Hid (∀ w' : World, Below (w1.alloc (Obj.cells #[.int .i64 b, .int .u16 a, .int .i64 (b % 64), .int .u16 (4096 + a % 4096)] 56)).heap.size (w1.alloc (Obj.cells #[.int .i64 b, .int .u16 a, .int .i64 (b % 64), .int .u16 (4096 + a % 4096)] 56)) w' → w'.cell? ⟨w1.heap.size, 0, none⟩ = some (.int .i64 b) ∧ w'.cell? ⟨w1.heap.size, 1, none⟩ = some (.int .u16 a) ∧ w'.cell? ⟨w1.heap.size, 2, none⟩ = some (.int .i64 (b % 64)) ∧ w'.cell? ⟨w1.heap.size, 3, none⟩ = some (.int .u16 (4096 + a % 4096))) := by
    intro w' h
    have hz : w1.heap.size < (w1.alloc (Obj.cells #[.int .i64 b, .int .u16 a, .int .i64 (b % 64), .int .u16 (4096 + a % 4096)] 56)).heap.size := by simp
    exact ⟨(h.cell hz).trans (by simp), (h.cell hz).trans (by simp), (h.cell hz).trans (by simp), (h.cell hz).trans (by simp)⟩
  have HB := Lib.hid (below_alloc h1 (Obj.cells #[.int .i64 b, .int .u16 a, .int .i64 (b % 64), .int .u16 (4096 + a % 4096)] 56))
  clear h1 ht hw hw2
  generalize w1.alloc (Obj.cells #[.int .i64 b, .int .u16 a, .int .i64 (b % 64), .int .u16 (4096 + a % 4096)] 56) = W2 at *
  generalize w1.heap.size = N at *
  go_loopw [9] (fun i wr => ∃ j : Int, 0 ≤ j ∧ j ≤ 2 ∧ i = .int .i64 j ∧ Below W2.heap.size W2 wr) (fun i _ => (2 - intOf i).toNat)
  case atStart => exact ⟨0, by omega, by omega, rfl, Below.refl _ _⟩
  case round =>
    obtain ⟨j, j0, j1, rfl, hB⟩ := hrel
    obtain ⟨c0, c1, c2, c3⟩ := HC.out wr hB
    by_cases hj2 : j = 2
    · subst hj2
      go_wp2_with fail
      go_ret
      exact ⟨rfl, below_next HB.out hB⟩
    by_cases hj : j = 0
    · subst hj
      clear j0 j1 hj2
      have HBr := Lib.hid hB
      clear hB
      have kb : OkI64 (b) := ⟨by omega, by omega⟩
      have ka : OkU16 (a) := ⟨by omega, by omega⟩
      have kn : OkI64 n := ⟨n0, n1⟩
      by_cases hc : isCode (b) (a) ∧ -((a) % 4096) ≤ n ∧ n < 4096 - (a) % 4096
      · obtain ⟨g0, g1, g2⟩ := hc
        have HY := Lib.hid (nextI_yes (b) (a) n g0 g1 g2)
        have HK := Lib.hid (nextI_back (b) (a) n (by omega) g0 g1 g2)
        have hx : OkU16 ((a) + n) := by unfold isCode at g0; exact ⟨by omega, by omega⟩
        have hm : OkI64 (-n) := ⟨by omega, by omega⟩
        have hwn : IntKind.i64.wrap (-n) = -n := IntWalk.i64_in _ (by omega)
        have HO := Lib.hid (And.intro kb (And.intro ka (And.intro kn (And.intro hx hm))))
        clear g0 g1 g2 kb ka kn hx hm
        obtain ⟨X, hX⟩ : ∃ X, (a) + n = X := ⟨_, rfl⟩
        rw [hX] at HY HK HO
        clear hX
        go_wp2_with fail
        refine (next_yes _ _ _ X _ HO.out.1 HO.out.2.1 HO.out.2.2.1 HY.out).mono ?_
        rintro e w3 ⟨rfl, h3⟩
        have hB3 := below_alloc (below_next HBr.out h3) (Obj.cells #[.int .i64 (b), .int .u16 X] 55)
        obtain ⟨c0, c1, c2, c3⟩ := HC.out _ hB3
        have p0 : (w3.alloc (Obj.cells #[.int .i64 (b), .int .u16 X] 55)).cell? ⟨w3.heap.size, 0, none⟩ = some (.int .i64 (b)) := by simp
        have p1 : (w3.alloc (Obj.cells #[.int .i64 (b), .int .u16 X] 55)).cell? ⟨w3.heap.size, 1, none⟩ = some (.int .u16 X) := by simp
        have p2 : w3.heap.size < (w3.alloc (Obj.cells #[.int .i64 (b), .int .u16 X] 55)).heap.size := by simp
        have HB3 := Lib.hid hB3
        clear hB3 h3
        go_wp2_with fail
        generalize w3.alloc (Obj.cells #[.int .i64 (b), .int .u16 X] 55) = W3 at *
        refine (rnext_yes _ _ _ X _ HO.out.1 HO.out.2.1 HO.out.2.2.1 HY.out).mono ?_
        rintro e w4 ⟨rfl, h4⟩
        have hB4 := below_alloc (below_next HB3.out h4) (Obj.cells #[.int .i64 (b), .int .u16 X] 55)
        obtain ⟨d0, d1, d2, d3⟩ := HC.out _ hB4
        have h4b := below_alloc h4 (Obj.cells #[.int .i64 (b), .int .u16 X] 55)
        have q0 := (h4b.cell (p := ⟨w3.heap.size, 0, none⟩) p2).trans p0
        have q1 := (h4b.cell (p := ⟨w3.heap.size, 1, none⟩) p2).trans p1
        have r0 : (w4.alloc (Obj.cells #[.int .i64 (b), .int .u16 X] 55)).cell? ⟨w4.heap.size, 0, none⟩ = some (.int .i64 (b)) := by simp
        have r1 : (w4.alloc (Obj.cells #[.int .i64 (b), .int .u16 X] 55)).cell? ⟨w4.heap.size, 1, none⟩ = some (.int .u16 X) := by simp
        have HB4 := Lib.hid hB4
        clear hB4 h4 h4b p0 p1 p2 c0 c1 c2 c3
        go_wp2_with fail
        generalize w4.alloc (Obj.cells #[.int .i64 (b), .int .u16 X] 55) = W4 at *
        refine (next_yes _ _ _ (a) _ HO.out.1 HO.out.2.2.2.1 HO.out.2.2.2.2 HK.out).mono ?_
        rintro e w5 ⟨rfl, h5⟩
        have hB5 := below_alloc (below_next HB4.out h5) (Obj.cells #[.int .i64 (b), .int .u16 (a)] 55)
        obtain ⟨e0, e1, e2, e3⟩ := HC.out _ hB5
        have s0 : (w5.alloc (Obj.cells #[.int .i64 (b), .int .u16 (a)] 55)).cell? ⟨w5.heap.size, 0, none⟩ = some (.int .i64 (b)) := by simp
        have s1 : (w5.alloc (Obj.cells #[.int .i64 (b), .int .u16 (a)] 55)).cell? ⟨w5.heap.size, 1, none⟩ = some (.int .u16 (a)) := by simp
        have HB5 := Lib.hid hB5
        clear hB5 h5 d0 d1 d2 d3 q0 q1 r0 r1
        go_wp2_with fail
        generalize w5.alloc (Obj.cells #[.int .i64 (b), .int .u16 (a)] 55) = W5 at *
        go_quiet (fail)
        go_wp2_with fail
        go_roundw
        case rel => exact ⟨0 + 1, by omega, by omega, by go_num, below_drewN HB5.out _⟩
        case measure => simp [intOf] <;> omega
      · have HN := Lib.hid (nextI_no (b) (a) n hc)
        have HO := Lib.hid (And.intro kb (And.intro ka kn))
        clear hc kb ka kn
        go_wp2_with fail
        refine (next_no _ _ _ _ HO.out.1 HO.out.2.1 HO.out.2.2 HN.out).mono ?_
        rintro e w3 ⟨rfl, h3⟩
        have hB3 := below_alloc (below_next HBr.out h3) (Obj.cells #[.int .i64 0, .int .u16 0] 55)
        obtain ⟨c0, c1, c2, c3⟩ := HC.out _ hB3
        have p0 : (w3.alloc (Obj.cells #[.int .i64 0, .int .u16 0] 55)).cell? ⟨w3.heap.size, 0, none⟩ = some (.int .i64 0) := by simp
        have p1 : (w3.alloc (Obj.cells #[.int .i64 0, .int .u16 0] 55)).cell? ⟨w3.heap.size, 1, none⟩ = some (.int .u16 0) := by simp
        have p2 : w3.heap.size < (w3.alloc (Obj.cells #[.int .i64 0, .int .u16 0] 55)).heap.size := by simp
        have HB3 := Lib.hid hB3
        clear hB3 h3
        go_wp2_with fail
        generalize w3.alloc (Obj.cells #[.int .i64 0, .int .u16 0] 55) = W3 at *
        refine (rnext_no _ _ _ _ HO.out.1 HO.out.2.1 HO.out.2.2 HN.out).mono ?_
        rintro e w4 ⟨rfl, h4⟩
        have hB4 := below_alloc (below_next HB3.out h4) (Obj.cells #[.int .i64 0, .int .u16 0] 55)
        have h4b := below_alloc h4 (Obj.cells #[.int .i64 0, .int .u16 0] 55)
        have q0 := (h4b.cell (p := ⟨w3.heap.size, 0, none⟩) p2).trans p0
        have q1 := (h4b.cell (p := ⟨w3.heap.size, 1, none⟩) p2).trans p1
        have r0 : (w4.alloc (Obj.cells #[.int .i64 0, .int .u16 0] 55)).cell? ⟨w4.heap.size, 0, none⟩ = some (.int .i64 0) := by simp
        have r1 : (w4.alloc (Obj.cells #[.int .i64 0, .int .u16 0] 55)).cell? ⟨w4.heap.size, 1, none⟩ = some (.int .u16 0) := by simp
        have HB4 := Lib.hid hB4
        clear hB4 h4 h4b p0 p1 p2 c0 c1 c2 c3
        go_wp2_with fail
        generalize w4.alloc (Obj.cells #[.int .i64 0, .int .u16 0] 55) = W4 at *
        go_roundw
        case rel => exact ⟨0 + 1, by omega, by omega, by go_num, HB4.out⟩
        case measure => simp [intOf] <;> omega
    obtain hj : j = 1 := by omega
    · subst hj
      clear j0 j1 hj2
      have HBr := Lib.hid hB
      clear hB
      have kb : OkI64 (b % 64) := ⟨by omega, by omega⟩
      have ka : OkU16 (4096 + a % 4096) := ⟨by omega, by omega⟩
      have kn : OkI64 n := ⟨n0, n1⟩
      by_cases hc : isCode (b % 64) (4096 + a % 4096) ∧ -((4096 + a % 4096) % 4096) ≤ n ∧ n < 4096 - (4096 + a % 4096) % 4096
      · obtain ⟨g0, g1, g2⟩ := hc
        have HY := Lib.hid (nextI_yes (b % 64) (4096 + a % 4096) n g0 g1 g2)
        have HK := Lib.hid (nextI_back (b % 64) (4096 + a % 4096) n (by omega) g0 g1 g2)
        have hx : OkU16 ((4096 + a % 4096) + n) := by unfold isCode at g0; exact ⟨by omega, by omega⟩
        have hm : OkI64 (-n) := ⟨by omega, by omega⟩
        have hwn : IntKind.i64.wrap (-n) = -n := IntWalk.i64_in _ (by omega)
        have HO := Lib.hid (And.intro kb (And.intro ka (And.intro kn (And.intro hx hm))))
        clear g0 g1 g2 kb ka kn hx hm
        obtain ⟨X, hX⟩ : ∃ X, (4096 + a % 4096) + n = X := ⟨_, rfl⟩
        rw [hX] at HY HK HO
        clear hX
        go_wp2_with fail
        refine (next_yes _ _ _ X _ HO.out.1 HO.out.2.1 HO.out.2.2.1 HY.out).mono ?_
        rintro e w3 ⟨rfl, h3⟩
        have hB3 := below_alloc (below_next HBr.out h3) (Obj.cells #[.int .i64 (b % 64), .int .u16 X] 55)
        obtain ⟨c0, c1, c2, c3⟩ := HC.out _ hB3
        have p0 : (w3.alloc (Obj.cells #[.int .i64 (b % 64), .int .u16 X] 55)).cell? ⟨w3.heap.size, 0, none⟩ = some (.int .i64 (b % 64)) := by simp
        have p1 : (w3.alloc (Obj.cells #[.int .i64 (b % 64), .int .u16 X] 55)).cell? ⟨w3.heap.size, 1, none⟩ = some (.int .u16 X) := by simp
        have p2 : w3.heap.size < (w3.alloc (Obj.cells #[.int .i64 (b % 64), .int .u16 X] 55)).heap.size := by simp
        have HB3 := Lib.hid hB3
        clear hB3 h3
        go_wp2_with fail
        generalize w3.alloc (Obj.cells #[.int .i64 (b % 64), .int .u16 X] 55) = W3 at *
        refine (rnext_yes _ _ _ X _ HO.out.1 HO.out.2.1 HO.out.2.2.1 HY.out).mono ?_
        rintro e w4 ⟨rfl, h4⟩
        have hB4 := below_alloc (below_next HB3.out h4) (Obj.cells #[.int .i64 (b % 64), .int .u16 X] 55)
        obtain ⟨d0, d1, d2, d3⟩ := HC.out _ hB4
        have h4b := below_alloc h4 (Obj.cells #[.int .i64 (b % 64), .int .u16 X] 55)
        have q0 := (h4b.cell (p := ⟨w3.heap.size, 0, none⟩) p2).trans p0
        have q1 := (h4b.cell (p := ⟨w3.heap.size, 1, none⟩) p2).trans p1
        have r0 : (w4.alloc (Obj.cells #[.int .i64 (b % 64), .int .u16 X] 55)).cell? ⟨w4.heap.size, 0, none⟩ = some (.int .i64 (b % 64)) := by simp
        have r1 : (w4.alloc (Obj.cells #[.int .i64 (b % 64), .int .u16 X] 55)).cell? ⟨w4.heap.size, 1, none⟩ = some (.int .u16 X) := by simp
        have HB4 := Lib.hid hB4
        clear hB4 h4 h4b p0 p1 p2 c0 c1 c2 c3
        go_wp2_with fail
        generalize w4.alloc (Obj.cells #[.int .i64 (b % 64), .int .u16 X] 55) = W4 at *
        refine (next_yes _ _ _ (4096 + a % 4096) _ HO.out.1 HO.out.2.2.2.1 HO.out.2.2.2.2 HK.out).mono ?_
        rintro e w5 ⟨rfl, h5⟩
        have hB5 := below_alloc (below_next HB4.out h5) (Obj.cells #[.int .i64 (b % 64), .int .u16 (4096 + a % 4096)] 55)
        obtain ⟨e0, e1, e2, e3⟩ := HC.out _ hB5
        have s0 : (w5.alloc (Obj.cells #[.int .i64 (b % 64), .int .u16 (4096 + a % 4096)] 55)).cell? ⟨w5.heap.size, 0, none⟩ = some (.int .i64 (b % 64)) := by simp
        have s1 : (w5.alloc (Obj.cells #[.int .i64 (b % 64), .int .u16 (4096 + a % 4096)] 55)).cell? ⟨w5.heap.size, 1, none⟩ = some (.int .u16 (4096 + a % 4096)) := by simp
        have HB5 := Lib.hid hB5
        clear hB5 h5 d0 d1 d2 d3 q0 q1 r0 r1
        go_wp2_with fail
        generalize w5.alloc (Obj.cells #[.int .i64 (b % 64), .int .u16 (4096 + a % 4096)] 55) = W5 at *
        go_quiet (fail)
        go_wp2_with fail
        go_roundw
        case rel => exact ⟨1 + 1, by omega, by omega, by go_num, below_drewN HB5.out _⟩
        case measure => simp [intOf] <;> omega
      · have HN := Lib.hid (nextI_no (b % 64) (4096 + a % 4096) n hc)
        have HO := Lib.hid (And.intro kb (And.intro ka kn))
        clear hc kb ka kn
        go_wp2_with fail
        refine (next_no _ _ _ _ HO.out.1 HO.out.2.1 HO.out.2.2 HN.out).mono ?_
        rintro e w3 ⟨rfl, h3⟩
        have hB3 := below_alloc (below_next HBr.out h3) (Obj.cells #[.int .i64 0, .int .u16 0] 55)
        obtain ⟨c0, c1, c2, c3⟩ := HC.out _ hB3
        have p0 : (w3.alloc (Obj.cells #[.int .i64 0, .int .u16 0] 55)).cell? ⟨w3.heap.size, 0, none⟩ = some (.int .i64 0) := by simp
        have p1 : (w3.alloc (Obj.cells #[.int .i64 0, .int .u16 0] 55)).cell? ⟨w3.heap.size, 1, none⟩ = some (.int .u16 0) := by simp
        have p2 : w3.heap.size < (w3.alloc (Obj.cells #[.int .i64 0, .int .u16 0] 55)).heap.size := by simp
        have HB3 := Lib.hid hB3
        clear hB3 h3
        go_wp2_with fail
        generalize w3.alloc (Obj.cells #[.int .i64 0, .int .u16 0] 55) = W3 at *
        refine (rnext_no _ _ _ _ HO.out.1 HO.out.2.1 HO.out.2.2 HN.out).mono ?_
        rintro e w4 ⟨rfl, h4⟩
        have hB4 := below_alloc (below_next HB3.out h4) (Obj.cells #[.int .i64 0, .int .u16 0] 55)
        have h4b := below_alloc h4 (Obj.cells #[.int .i64 0, .int .u16 0] 55)
        have q0 := (h4b.cell (p := ⟨w3.heap.size, 0, none⟩) p2).trans p0
        have q1 := (h4b.cell (p := ⟨w3.heap.size, 1, none⟩) p2).trans p1
        have r0 : (w4.alloc (Obj.cells #[.int .i64 0, .int .u16 0] 55)).cell? ⟨w4.heap.size, 0, none⟩ = some (.int .i64 0) := by simp
        have r1 : (w4.alloc (Obj.cells #[.int .i64 0, .int .u16 0] 55)).cell? ⟨w4.heap.size, 1, none⟩ = some (.int .u16 0) := by simp
        have HB4 := Lib.hid hB4
        clear hB4 h4 h4b p0 p1 p2 c0 c1 c2 c3
        go_wp2_with fail
        generalize w4.alloc (Obj.cells #[.int .i64 0, .int .u16 0] 55) = W4 at *
        go_roundw
        case rel => exact ⟨1 + 1, by omega, by omega, by go_num, HB4.out⟩
        case measure => simp [intOf] <;> omega
end Go.Proofs.Ytgdiaaoekkdibaa
