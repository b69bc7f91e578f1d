/- CheckSame: the whole function. CheckSame: the law's function returns true. -/
import Derived.Test.YtdlpcbhibpjjiaaGreatZ1
import Derived.Test.YtdlpcbhibpjjiaaGreatZ3
namespace Go.Ab
set_option maxRecDepth 8000
set_option linter.unusedSimpArgs false
open Go.Proofs Go.RowKit
set_option linter.unusedVariables false
noncomputable def l10F : CFunc := ⟨3, 15, .seq g0 (.seq g1 (.seq g2 (.seq g3 (.seq g4 (.seq g5 (.seq g6 (.seq (.seq g7 g8) (.seq g9 (.seq g10 g11))))))))), [.slot 14]⟩
theorem c10_eq : cFunc Tryz.prog 0 Tryz.f10 = some l10F := by kernel_rfl
theorem segs10 : segs l10F.body = [g0, g1, g2, g3, g4, g5, g6, g7, g8, g9, g10, g11] := by kernel_rfl
theorem beqI_iff (a b : Int) : beqI a b = true ↔ a = b := by
  cases a <;> cases b <;> simp [beqI, Int.ofNat_inj]
theorem pk_eq (a0 a1 b0 b1 : Int) (c1 c2 : Nat) : ∀ n, pk a0 a1 c1 n = pk b0 b1 c2 n ↔ (a0 = b0 ∧ a1 = b1 ∧ c1 = c2)
  | 0 => by
    show [PV.int .i64 a0, .str [84, c1], .int .i64 a1, .fz []] = [PV.int .i64 b0, .str [84, c2], .int .i64 b1, .fz []] ↔ _
    simp only [List.cons.injEq, PV.int.injEq, PV.str.injEq, true_and, and_true]
    constructor
    · rintro ⟨h1, h2, h3⟩; exact ⟨h1, h3, h2⟩
    · rintro ⟨h1, h3, h2⟩; exact ⟨h1, h2, h3⟩
  | n + 1 => by
    rw [← pk_eq a0 a1 b0 b1 c1 c2 n]
    show [PV.int .i64 6, .str [], .int .i64 (.ofNat n), .fz [pk a0 a1 c1 n]] = [PV.int .i64 6, .str [], .int .i64 (.ofNat n), .fz [pk b0 b1 c2 n]] ↔ _
    simp only [List.cons.injEq, PV.fz.injEq, true_and, and_true]
theorem eqv_iff (a0 a1 b0 b1 : Int) (c1 c2 : Nat) : eqv a0 a1 b0 b1 c1 c2 = true ↔ (a0 = b0 ∧ a1 = b1 ∧ c1 = c2) := by
  unfold eqv
  rw [← beqI_iff a0 b0, ← beqI_iff a1 b1]
  have h : (c1 = c2) ↔ Nat.beq c1 c2 = true := ⟨fun h => by rw [h]; exact Nat.beq_refl _, fun h => Nat.eq_of_beq_eq_true h⟩
  rw [h]
  cases beqI a0 b0 <;> cases beqI a1 b1 <;> cases Nat.beq c1 c2 <;> simp
theorem pk_ty (a0 a1 : Int) (c : Nat) : ∀ n d, n < d → Ty d (pk a0 a1 c n)
  | 0, d + 1, _ => Ty.mk d a0 a1 [84, c] [] (by decide) (fun _ h => by cases h)
  | n + 1, d + 1, h => Ty.mk d 6 (.ofNat n) [] [pk a0 a1 c n] (by simp) (fun x hx => by
    rw [List.mem_singleton] at hx
    subst hx
    exact pk_ty a0 a1 c n d (by omega))
noncomputable def moreP (a0 a1 b0 b1 : Int) (c1 c2 n : Nat) : List PV := Nat.casesOn (motive := fun _ => List PV) n [.int .i64 a0, .str [84, c1], .int .i64 a1, .fz [pk b0 b1 c2 0]] (fun n => [.int .i64 6, .str [], .int .i64 (.ofNat n), .fz [pk a0 a1 c1 n, pk b0 b1 c2 0]])
theorem more_ty (a0 a1 b0 b1 : Int) (c1 c2 n : Nat) (h : n < 5) : Ty 9 (moreP a0 a1 b0 b1 c1 c2 n) := by
  cases n with
  | zero => exact Ty.mk 8 a0 a1 [84, c1] [pk b0 b1 c2 0] (by simp) (fun x hx => by
      rw [List.mem_singleton] at hx
      subst hx
      exact pk_ty b0 b1 c2 0 8 (by omega))
  | succ n => exact Ty.mk 8 6 (.ofNat n) [] [pk a0 a1 c1 n, pk b0 b1 c2 0] (by simp) (fun x hx => by
      rw [List.mem_cons, List.mem_singleton] at hx
      rcases hx with rfl | rfl
      · exact pk_ty a0 a1 c1 n 8 (by omega)
      · exact pk_ty b0 b1 c2 0 8 (by omega))
theorem more_ne (a0 a1 b0 b1 : Int) (c1 c2 n : Nat) : pk a0 a1 c1 n ≠ moreP a0 a1 b0 b1 c1 c2 n := by
  cases n with
  | zero =>
    intro h
    have h : [PV.int .i64 a0, .str [84, c1], .int .i64 a1, .fz []] = [.int .i64 a0, .str [84, c1], .int .i64 a1, .fz [pk b0 b1 c2 0]] := h
    simp at h
  | succ n =>
    intro h
    have h : [PV.int .i64 6, .str [], .int .i64 (.ofNat n), .fz [pk a0 a1 c1 n]] = [.int .i64 6, .str [], .int .i64 (.ofNat n), .fz [pk a0 a1 c1 n, pk b0 b1 c2 0]] := h
    simp at h
theorem args10 (a0 a1 a2 b0 b1 b2 : Int) (c1 c2 n : Nat) (h : n < 5) :
    toPV 0 (mem9 a0 a1 a2 b0 b1 b2 c1 c2 n).objs 12 (.agg (vk a0 a1 c1 n)) = some (.agg (pk a0 a1 c1 n)) ∧ toPV 0 (mem9 a0 a1 a2 b0 b1 b2 c1 c2 n).objs 12 (.agg (vk b0 b1 c2 n)) = some (.agg (pk b0 b1 c2 n)) ∧ toPV 0 (mem9 a0 a1 a2 b0 b1 b2 c1 c2 n).objs 12 (.agg (moreK a0 a1 c1 n)) = some (.agg (moreP a0 a1 b0 b1 c1 c2 n)) := by
  match n, h with
  | 0, _ => exact ⟨by kernel_rfl, by kernel_rfl, by kernel_rfl⟩
  | 1, _ => exact ⟨by kernel_rfl, by kernel_rfl, by kernel_rfl⟩
  | 2, _ => exact ⟨by kernel_rfl, by kernel_rfl, by kernel_rfl⟩
  | 3, _ => exact ⟨by kernel_rfl, by kernel_rfl, by kernel_rfl⟩
  | 4, _ => exact ⟨by kernel_rfl, by kernel_rfl, by kernel_rfl⟩
section
variable (fuel m : Nat) (a0 a1 a2 b0 b1 b2 d : Int)
noncomputable def dig (x : Int) : Nat := 48 + (modI x 4).toNat
noncomputable abbrev cl10 (fuel m : Nat) : Cll := callE EX fuel (m + 1) 10
theorem evFrom {c1 c2 n : Nat} {d : Int} (call : Cll) (e : Bool) (h : evCode g8 call 300 (frS a0 a1 a2 b0 b1 b2 d (.ptr 2 0 0) (.ptr 3 0 0) (.p (.int .i64 (.ofNat 0))) undefA (.ptr 4 0 0) (.ptr 5 0 0) (.p (.bool true)) (.p (.bool e)) undefA (.p (.bool false))) ⟨6, obk a0 a1 a2 b0 b1 b2 c1 c2 0⟩ = some (.normal, frS a0 a1 a2 b0 b1 b2 d (.ptr 2 0 0) (.ptr 3 0 0) (.p (.int .i64 (.ofNat n))) (.p (.bool false)) (.ptr 4 0 0) (.ptr 5 0 0) (.p (.bool true)) (.p (.bool e)) undefA (.p (.bool false)), ⟨6, obk a0 a1 a2 b0 b1 b2 c1 c2 n⟩))
   (h9 : evCode g9 call 300 (frS a0 a1 a2 b0 b1 b2 d (.ptr 2 0 0) (.ptr 3 0 0) (.p (.int .i64 (.ofNat n))) (.p (.bool false)) (.ptr 4 0 0) (.ptr 5 0 0) (.p (.bool true)) (.p (.bool e)) undefA (.p (.bool false))) ⟨6, obk a0 a1 a2 b0 b1 b2 c1 c2 n⟩ = some (.normal, frS a0 a1 a2 b0 b1 b2 d (.ptr 2 0 0) (.ptr 3 0 0) (.p (.int .i64 (.ofNat n))) (.p (.bool false)) (.ptr 4 0 0) (.ptr 5 0 0) (.p (.bool true)) (.p (.bool e)) (.ptr 8 0 0) (.p (.bool false)), mem9 a0 a1 a2 b0 b1 b2 c1 c2 n))
   (h10 : evCode g10 call 300 (frS a0 a1 a2 b0 b1 b2 d (.ptr 2 0 0) (.ptr 3 0 0) (.p (.int .i64 (.ofNat n))) (.p (.bool false)) (.ptr 4 0 0) (.ptr 5 0 0) (.p (.bool true)) (.p (.bool e)) (.ptr 8 0 0) (.p (.bool false))) (mem9 a0 a1 a2 b0 b1 b2 c1 c2 n) = some (.normal, frS a0 a1 a2 b0 b1 b2 d (.ptr 2 0 0) (.ptr 3 0 0) (.p (.int .i64 (.ofNat n))) (.p (.bool false)) (.ptr 4 0 0) (.ptr 5 0 0) (.p (.bool true)) (.p (.bool e)) (.ptr 8 0 0) (.p (.bool true)), mem9 a0 a1 a2 b0 b1 b2 c1 c2 n)) :
   evSegs [g8, g9, g10, g11] call 300 (frS a0 a1 a2 b0 b1 b2 d (.ptr 2 0 0) (.ptr 3 0 0) (.p (.int .i64 (.ofNat 0))) undefA (.ptr 4 0 0) (.ptr 5 0 0) (.p (.bool true)) (.p (.bool e)) undefA (.p (.bool false))) ⟨6, obk a0 a1 a2 b0 b1 b2 c1 c2 0⟩ = some (.ret, frS a0 a1 a2 b0 b1 b2 d (.ptr 2 0 0) (.ptr 3 0 0) (.p (.int .i64 (.ofNat n))) (.p (.bool false)) (.ptr 4 0 0) (.ptr 5 0 0) (.p (.bool true)) (.p (.bool e)) (.ptr 8 0 0) (.p (.bool true)), mem9 a0 a1 a2 b0 b1 b2 c1 c2 n) := by
  rw [seg_step h, seg_step h9, seg_step h10]
  rfl
open Classical in
theorem body10 : ∃ n, n < 5 ∧ ∃ fr', nth fr' 14 = some (.p (.bool true)) ∧ evSegs [g0, g1, g2, g3, g4, g5, g6, g7, g8, g9, g10, g11] (cl10 fuel m) 300 [.p (.agg [.int .i64 a0, .int .i64 a1, .int .i64 a2]), .p (.agg [.int .i64 b0, .int .i64 b1, .int .i64 b2]), .p (.int .i64 d), undefA, undefA, undefA, undefA, undefA, undefA, undefA, undefA, undefA, undefA, undefA, undefA] ⟨0, []⟩ = some (.ret, fr', mem9 a0 a1 a2 b0 b1 b2 (dig a2) (dig b2) n) := by
  have hn := modI_lt d 5 (by omega)
  obtain ⟨n, hn'⟩ : ∃ n : Nat, modI d 5 = .ofNat n := ⟨(modI d 5).toNat, by show _ = ((modI d 5).toNat : Int); omega⟩
  have hn5 : n < 5 := by rw [hn'] at hn; have := hn.2; simp at this; omega
  have H11 : ∀ M, cl10 fuel m 11 [] M = some (.ret (.p (.bool true)), M) := fun M => x11 fuel m 10 how10.1 M
  have Ha : ∀ M, cl10 fuel m 23 [.p (.int .i64 a2), .p (.int .i64 4)] M = some (.ret (.p (.int .i64 (modI a2 4))), M) := fun M => x23 fuel m 10 how10.2.1 a2 4 (.inl rfl) M
  have Hb : ∀ M, cl10 fuel m 23 [.p (.int .i64 b2), .p (.int .i64 4)] M = some (.ret (.p (.int .i64 (modI b2 4))), M) := fun M => x23 fuel m 10 how10.2.1 b2 4 (.inl rfl) M
  have Ha' : ∀ M, cl10 fuel m 24 [.p (.int .i64 (modI a2 4))] M = some (.ret (.p (.str [dig a2])), M) := fun M => x24 fuel m 10 how10.2.2.1 _ (modI_lt a2 4 (by omega)) M
  have Hb' : ∀ M, cl10 fuel m 24 [.p (.int .i64 (modI b2 4))] M = some (.ret (.p (.str [dig b2])), M) := fun M => x24 fuel m 10 how10.2.2.1 _ (modI_lt b2 4 (by omega)) M
  have H5 : ∀ M, cl10 fuel m 23 [.p (.int .i64 d), .p (.int .i64 5)] M = some (.ret (.p (.int .i64 (.ofNat n))), M) := fun M => by
    rw [← hn']
    exact x23 fuel m 10 how10.2.1 d 5 (.inr rfl) M
  obtain ⟨tA, tB, tM⟩ := args10 a0 a1 a2 b0 b1 b2 (dig a2) (dig b2) n hn5
  have yA := pk_ty a0 a1 (dig a2) n 9 (by omega)
  have yB := pk_ty b0 b1 (dig b2) n 9 (by omega)
  have yM := more_ty a0 a1 b0 b1 (dig a2) (dig b2) n hn5
  have hA := x25 fuel m 10 how10.2.2.2 _ _ yA yB _ _ _ tA tB
  have hB := x25 fuel m 10 how10.2.2.2 _ _ yA yA _ _ _ tA tA
  have hC := x25 fuel m 10 how10.2.2.2 _ _ yA yM _ _ _ tA tM
  have hD := x25 fuel m 10 how10.2.2.2 _ _ yM yA _ _ _ tM tA
  have e1 : decide (pk a0 a1 (dig a2) n = pk b0 b1 (dig b2) n) = eqv a0 a1 b0 b1 (dig a2) (dig b2) := by
    rw [Bool.eq_iff_iff, eqv_iff, decide_eq_true_eq, pk_eq]
  have e2 : decide (pk a0 a1 (dig a2) n = pk a0 a1 (dig a2) n) = true := by simp
  have e3 : decide (pk a0 a1 (dig a2) n = moreP a0 a1 b0 b1 (dig a2) (dig b2) n) = false := by
    rw [decide_eq_false_iff_not]
    exact more_ne a0 a1 b0 b1 (dig a2) (dig b2) n
  have e4 : decide (moreP a0 a1 b0 b1 (dig a2) (dig b2) n = pk a0 a1 (dig a2) n) = false := by
    rw [decide_eq_false_iff_not]
    exact fun h => more_ne a0 a1 b0 b1 (dig a2) (dig b2) n h.symm
  rw [e1] at hA
  rw [e2] at hB
  rw [e3] at hC
  rw [e4] at hD
  refine ⟨n, hn5, ?_⟩
  have start : ∀ {R : Out}, evSegs [g8, g9, g10, g11] (cl10 fuel m) 300 (frS a0 a1 a2 b0 b1 b2 d (.ptr 2 0 0) (.ptr 3 0 0) (.p (.int .i64 (.ofNat 0))) undefA (.ptr 4 0 0) (.ptr 5 0 0) (.p (.bool true)) (.p (.bool (eqv a0 a1 b0 b1 (dig a2) (dig b2)))) undefA (.p (.bool false))) ⟨6, obk a0 a1 a2 b0 b1 b2 (dig a2) (dig b2) 0⟩ = R → evSegs [g0, g1, g2, g3, g4, g5, g6, g7, g8, g9, g10, g11] (cl10 fuel m) 300 [.p (.agg [.int .i64 a0, .int .i64 a1, .int .i64 a2]), .p (.agg [.int .i64 b0, .int .i64 b1, .int .i64 b2]), .p (.int .i64 d), undefA, undefA, undefA, undefA, undefA, undefA, undefA, undefA, undefA, undefA, undefA, undefA] ⟨0, []⟩ = R := by
    intro R h
    rw [seg_step (q0 _ a0 a1 a2 b0 b1 b2 d), seg_step (q1 _ a0 a1 a2 b0 b1 b2 d _ H11), seg_step (q2 _ a0 a1 a2 b0 b1 b2 d _ _ Ha Ha'), seg_step (q3 _ a0 a1 a2 b0 b1 b2 d _ _ _ Hb Hb'), seg_step (q4 _ a0 a1 a2 b0 b1 b2 d _ _), seg_step (q5 _ a0 a1 a2 b0 b1 b2 d _ _ _), seg_step (q6 _ a0 a1 a2 b0 b1 b2 d _ _ _), seg_step (q7 _ a0 a1 a2 b0 b1 b2 d _ _ _)]
    exact h
  have hc : n = 0 ∨ n = 1 ∨ n = 2 ∨ n = 3 ∨ n = 4 := by omega
  clear hn' hn yA yB yM e1 e2 e3 e4 tA tB tM
  rcases hc with rfl | rfl | rfl | rfl | rfl
  · have r1 := q8_0 (cl10 fuel m) a0 a1 a2 b0 b1 b2 d (dig a2) (dig b2) (eqv a0 a1 b0 b1 (dig a2) (dig b2)) H5
    have r2 := q9_0 (cl10 fuel m) a0 a1 a2 b0 b1 b2 d (dig a2) (dig b2) (eqv a0 a1 b0 b1 (dig a2) (dig b2))
    have r3 := q10_0 (cl10 fuel m) a0 a1 a2 b0 b1 b2 d (dig a2) (dig b2) (eqv a0 a1 b0 b1 (dig a2) (dig b2)) hA hB hC hD
    have r4 := evFrom a0 a1 a2 b0 b1 b2 _ _ r1 r2 r3
    have r5 := start r4
    refine ⟨_, ?_, r5⟩
    rfl
  · have r1 := q8_1 (cl10 fuel m) a0 a1 a2 b0 b1 b2 d (dig a2) (dig b2) (eqv a0 a1 b0 b1 (dig a2) (dig b2)) H5
    have r2 := q9_1 (cl10 fuel m) a0 a1 a2 b0 b1 b2 d (dig a2) (dig b2) (eqv a0 a1 b0 b1 (dig a2) (dig b2))
    have r3 := q10_1 (cl10 fuel m) a0 a1 a2 b0 b1 b2 d (dig a2) (dig b2) (eqv a0 a1 b0 b1 (dig a2) (dig b2)) hA hB hC hD
    have r4 := evFrom a0 a1 a2 b0 b1 b2 _ _ r1 r2 r3
    have r5 := start r4
    refine ⟨_, ?_, r5⟩
    rfl
  · have r1 := q8_2 (cl10 fuel m) a0 a1 a2 b0 b1 b2 d (dig a2) (dig b2) (eqv a0 a1 b0 b1 (dig a2) (dig b2)) H5
    have r2 := q9_2 (cl10 fuel m) a0 a1 a2 b0 b1 b2 d (dig a2) (dig b2) (eqv a0 a1 b0 b1 (dig a2) (dig b2))
    have r3 := q10_2 (cl10 fuel m) a0 a1 a2 b0 b1 b2 d (dig a2) (dig b2) (eqv a0 a1 b0 b1 (dig a2) (dig b2)) hA hB hC hD
    have r4 := evFrom a0 a1 a2 b0 b1 b2 _ _ r1 r2 r3
    have r5 := start r4
    refine ⟨_, ?_, r5⟩
    rfl
  · have r1 := q8_3 (cl10 fuel m) a0 a1 a2 b0 b1 b2 d (dig a2) (dig b2) (eqv a0 a1 b0 b1 (dig a2) (dig b2)) H5
    have r2 := q9_3 (cl10 fuel m) a0 a1 a2 b0 b1 b2 d (dig a2) (dig b2) (eqv a0 a1 b0 b1 (dig a2) (dig b2))
    have r3 := q10_3 (cl10 fuel m) a0 a1 a2 b0 b1 b2 d (dig a2) (dig b2) (eqv a0 a1 b0 b1 (dig a2) (dig b2)) hA hB hC hD
    have r4 := evFrom a0 a1 a2 b0 b1 b2 _ _ r1 r2 r3
    have r5 := start r4
    refine ⟨_, ?_, r5⟩
    rfl
  · have r1 := q8_4 (cl10 fuel m) a0 a1 a2 b0 b1 b2 d (dig a2) (dig b2) (eqv a0 a1 b0 b1 (dig a2) (dig b2)) H5
    have r2 := q9_4 (cl10 fuel m) a0 a1 a2 b0 b1 b2 d (dig a2) (dig b2) (eqv a0 a1 b0 b1 (dig a2) (dig b2))
    have r3 := q10_4 (cl10 fuel m) a0 a1 a2 b0 b1 b2 d (dig a2) (dig b2) (eqv a0 a1 b0 b1 (dig a2) (dig b2)) hA hB hC hD
    have r4 := evFrom a0 a1 a2 b0 b1 b2 _ _ r1 r2 r3
    have r5 := start r4
    refine ⟨_, ?_, r5⟩
    rfl
theorem run10 : RunOk Tryz.prog 10 [.p (.agg [.int .i64 a0, .int .i64 a1, .int .i64 a2]), .p (.agg [.int .i64 b0, .int .i64 b1, .int .i64 b2]), .p (.int .i64 d)] ⟨0, []⟩ (.ret (.p (.bool true))) ⟨0, []⟩ := by
  obtain ⟨n, hn, fr', h14, hb⟩ := body10 0 0 a0 a1 a2 b0 b1 b2 d
  refine evFun_ok (call := cl10 0 0) (n := 300) (frz := true) (L := 0) (by kernel_rfl) (callX_ok 0 1 10) (f := 10) (by kernel_rfl) c10_eq ?_
  rw [← segs10, ← evCode_segs] at hb
  show (ob (evCode l10F.body (cl10 0 0) 300 [.p (.agg [.int .i64 a0, .int .i64 a1, .int .i64 a2]), .p (.agg [.int .i64 b0, .int .i64 b1, .int .i64 b2]), .p (.int .i64 d), undefA, undefA, undefA, undefA, undefA, undefA, undefA, undefA, undefA, undefA, undefA, undefA] ⟨0, []⟩) fun r =>
    Ex.casesOn (motive := fun _ => Option (Rs × Mem)) r.1
      (ob (evRes l10F.results r.2.1 r.2.2.objs) fun vs => ob (leave true 0 (resV vs) r.2.2) fun x => some (.ret x.1, x.2))
      (fun _ => none)
      (ob (evRes l10F.results r.2.1 r.2.2.objs) fun vs => ob (leave true 0 (resV vs) r.2.2) fun x => some (.ret x.1, x.2))
      (fun v => ob (leave true 0 v r.2.2) fun x => some (.pan x.1, x.2))) = _
  rw [hb]
  show (ob (ob (ob (nth fr' 14) fun v => some v) fun b => some [b]) fun vs => ob (leave true 0 (resV vs) _) fun x => some (Rs.ret x.1, x.2)) = _
  rw [h14]
  have hc : n = 0 ∨ n = 1 ∨ n = 2 ∨ n = 3 ∨ n = 4 := by omega
  rcases hc with rfl | rfl | rfl | rfl | rfl
  · exact (show _ = _ by kernel_rfl)
  · exact (show _ = _ by kernel_rfl)
  · exact (show _ = _ by kernel_rfl)
  · exact (show _ = _ by kernel_rfl)
  · exact (show _ = _ by kernel_rfl)
end
end Go.Ab
namespace Go.Ab
set_option maxRecDepth 8000
set_option linter.unusedSimpArgs false
open Go.Proofs Go.RowKit
set_option linter.unusedVariables false
theorem arr3_rel (w : World) (O : Bl) (x y z : Int) : PRel w O (.agg [.int .i64 x, .int .i64 y, .int .i64 z]) (.agg #[.int .i64 x, .int .i64 y, .int .i64 z]) := by
  refine PRel.agg _ _ rfl (fun i v h => ?_) (fun i c v hc h => ?_)
  · match i, h with
    | 0, h => cases h; exact rfl
    | 1, h => cases h; exact rfl
    | 2, h => cases h; exact rfl
  · match i, hc, h with
    | 0, hc, h => cases hc; cases h; exact .int _ _
    | 1, hc, h => cases hc; cases h; exact .int _ _
    | 2, hc, h => cases hc; cases h; exact .int _ _
theorem checkSame_walk (a0 a1 a2 b0 b1 b2 d : Int) (W : World) {P0 P1 P2 P3 P4 P5 P6 P7 P8 P9 P10 P11 P12 P13 : Prop} (_ : P0) (_ : P1) (_ : P2) (_ : P3) (_ : P4) (_ : P5) (_ : P6) (_ : P7) (_ : P8) (_ : P9) (_ : P10) (_ : P11) (_ : P12) (_ : P13) : Calls Tryz.prog 10 #[.agg #[.int .i64 a0, .int .i64 a1, .int .i64 a2], .agg #[.int .i64 b0, .int .i64 b1, .int .i64 b2], .int .i64 d] W fun e w' => e = .returned (.bool true) ∧ Go.RowKit.Below W.heap.size W w' := by
  refine (run_nil (run10 a0 a1 a2 b0 b1 b2 d) W [.agg #[.int .i64 a0, .int .i64 a1, .int .i64 a2], .agg #[.int .i64 b0, .int .i64 b1, .int .i64 b2], .int .i64 d] (RL.cons (R.p (arr3_rel _ _ _ _ _)) (RL.cons (R.p (arr3_rel _ _ _ _ _)) (RL.cons (R.p (.int _ _)) .nil)))).mono fun e w' => ?_
  rintro ⟨x, rfl, hE, O, G, n, hr, _⟩
  cases hr with
  | p _ _ h =>
    cases h
    exact ⟨rfl, hE.os, hE.tape, hE.output, hE.size, fun k hk => hE.keep k hk (fun h => h)⟩
end Go.Ab
