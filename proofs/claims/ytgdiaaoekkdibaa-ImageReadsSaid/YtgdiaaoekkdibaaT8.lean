/- The contract of the reference's Turned: remainders 11. -/
import Derived.Test.YtgdiaaoekkdibaaO0
import Derived.RegionTactic
import Derived.BigQuiet
import Derived.Deep.RegionHeldLaw
import Derived.Deep.AppendLies
import Derived.Deep.QuietTactic
import Derived.Test.YtgdiaaoekkdibaaT1
import Derived.Test.YtgdiaaoekkdibaaT3
import Derived.Test.YtgdiaaoekkdibaaT4
import Derived.Test.YtgdiaaoekkdibaaT5
namespace Go.Proofs.Ytgdiaaoekkdibaa
set_option linter.unusedVariables false
set_option linter.unusedSimpArgs false
open Go.RowKit
theorem TMem.push3 {w w' w1 : World} {I : Img} {v1 v2 v3 v' : Value} {a b c : Int} (h : TMem w w' I v1 v2 v3 a b c) (o : RelI) (hok : o.ok) (hown : w1.ownsRow (w.heap.size + 3) 41 2 v' (I.relocs.length + 1) (I.relocs.flatMap RelI.cells ++ o.cells)) (hg : w'.grownBy w1 v3.ownBlock) :
    (w1.cell? ⟨w.heap.size, 0, none⟩ = some v1 ∧ w1.cell? ⟨w.heap.size, 1, none⟩ = some (.int .u16 I.entry) ∧ w1.cell? ⟨w.heap.size, 2, none⟩ = some (.int .u16 I.vector) ∧ w1.cell? ⟨w.heap.size, 3, none⟩ = some v2 ∧ w1.cell? ⟨w.heap.size, 4, none⟩ = some v3 ∧ (∀ k, w1.frozen? ⟨w.heap.size, k, none⟩ = false) ∧ w1.cell? ⟨w.heap.size + 1, 1, none⟩ = some (.int .i64 b) ∧ w1.cell? ⟨w.heap.size + 1, 2, none⟩ = some (.int .i64 c)) ∧
    TMem w (w1.setCell ⟨w.heap.size, 4, none⟩ v') { I with relocs := I.relocs ++ [o] } v1 v2 v' a b c := by
  have hb : Below (w.heap.size + 3) w' w1 := (Below.refl (w.heap.size + 3) w').grown hg h.size (fun k e => (h.o3.lt k e).1)
  have g0 : w.heap.size < w.heap.size + 3 := by omega
  have g1 : w.heap.size + 1 < w.heap.size + 3 := by omega
  have g2 : w.heap.size + 2 < w.heap.size + 3 := by omega
  have i0 := (hb.cell (p := ⟨w.heap.size, 0, none⟩) g0).trans h.i0
  have i1 := (hb.cell (p := ⟨w.heap.size, 1, none⟩) g0).trans h.i1
  have i2 := (hb.cell (p := ⟨w.heap.size, 2, none⟩) g0).trans h.i2
  have i3 := (hb.cell (p := ⟨w.heap.size, 3, none⟩) g0).trans h.i3
  have i4 := (hb.cell (p := ⟨w.heap.size, 4, none⟩) g0).trans h.i4
  have fi : ∀ k, w1.frozen? ⟨w.heap.size, k, none⟩ = false := fun k => (hb.frozen (p := ⟨w.heap.size, k, none⟩) g0).trans (h.fi k)
  have hc : ∀ m j, m ≠ 0 → (w1.setCell ⟨w.heap.size, 4, none⟩ v').cell? ⟨w.heap.size + m, j, none⟩ = w1.cell? ⟨w.heap.size + m, j, none⟩ := fun m j hm => World.cell?_setCell_other _ _ _ _ (fun e => by injection e with e1; omega)
  have hz := hb.size
  have hs := h.size
  refine ⟨⟨i0, i1, i2, i3, i4, fi, (hb.cell (p := ⟨w.heap.size + 1, 1, none⟩) g1).trans h.q1, (hb.cell (p := ⟨w.heap.size + 1, 2, none⟩) g1).trans h.q2⟩, ⟨(World.cell?_setCell_other _ _ _ _ (addr_ne _ 4 0 (by decide))).trans i0, (World.cell?_setCell_other _ _ _ _ (addr_ne _ 4 1 (by decide))).trans i1, (World.cell?_setCell_other _ _ _ _ (addr_ne _ 4 2 (by decide))).trans i2, (World.cell?_setCell_other _ _ _ _ (addr_ne _ 4 3 (by decide))).trans i3, World.cell?_setCell_same _ _ _ i4, fun k => (frozen_set' _ _ _ _).trans (fi k),
    (hc 1 0 (by decide)).trans ((hb.cell (p := ⟨w.heap.size + 1, 0, none⟩) g1).trans h.q0), (hc 1 1 (by decide)).trans ((hb.cell (p := ⟨w.heap.size + 1, 1, none⟩) g1).trans h.q1), (hc 1 2 (by decide)).trans ((hb.cell (p := ⟨w.heap.size + 1, 2, none⟩) g1).trans h.q2), fun k hk => ?_, fun k => (frozen_set' _ _ _ _).trans ((hb.frozen (p := ⟨w.heap.size + 2, k, none⟩) g2).trans (h.ft k)),
    own_set (h.o1.kept hg (own_apart h.o1 h.o3 (by decide))) g0, own_set (h.o2.kept hg (own_apart h.o2 h.o3 (by decide))) g0, by simpa using own_set hown g0, h.hs, h.ho, fun x hx => ?_, h.he, h.hv, by simp; omega, (h.below.trans (hb.mono (by omega))).setCell (Nat.le_refl _) _⟩⟩
  · obtain ⟨v, hv⟩ := h.t k hk
    exact ⟨v, (hc 2 k (by decide)).trans ((hb.cell (p := ⟨w.heap.size + 2, k, none⟩) g2).trans hv)⟩
  · rcases List.mem_append.1 hx with hx | hx
    · exact h.hr x hx
    · rw [List.mem_singleton.1 hx]; exact hok
set_option maxRecDepth 100000 in
set_option maxHeartbeats 8000000 in
theorem turned_11 (p1 : Option Addr) (c1 : Nat) (p2 : Option Addr) (c2 : Nat) (p3 : Option Addr) (c3 : Nat) (I : Img) (x y z : Int) (w : World) (hI : ImgAt w p1 p2 p3 I) (hs : ∀ s ∈ I.banks, s.size ≤ 4096) (b1 : I.banks.length ≤ 100000) (b2 : I.data.length ≤ 100000) (b3 : I.relocs.length ≤ 100000) (hx : OkI64 x) (hy : OkI64 y) (hz : OkI64 z) (hm : x % 12 = 11) (Rr : Ending → World → Prop) (HR : Hid (∀ e w', TurnedPost I w e w' → Rr e w')) :
    Calls Try.prog 17 #[imgV p1 c1 p2 c2 p3 c3 I, .agg #[.int .i64 x, .int .i64 y, .int .i64 z]] w Rr := by
  have HIk := Lib.hid (hI.kept (below_alloc (below_alloc (below1 w (Obj.cells #[.slice p1 I.banks.length c1, .int .u16 I.entry, .int .u16 I.vector, .slice p2 I.data.length c2, .slice p3 I.relocs.length c3] 30)) (Obj.cells #[.int .i64 x, .int .i64 y, .int .i64 z] 23)) (Obj.cells #[Value.slice none 0 0, Value.int IntKind.u16 0, Value.int IntKind.u16 0, Value.slice none 0 0, Value.slice none 0 0] 30)))
  obtain ⟨_, ho, hr⟩ := img_parts hI
  have HT := fun (w1 : World) (v1 v2 v3 : Value) hB hO => tmem_start p1 c1 p2 c2 p3 c3 I x y z w w1 v1 v2 v3 hB hO hs ho hr hI.entry hI.vector
  have KT := Lib.hid HT
  have KX := Lib.hid hx
  have KY := Lib.hid hy
  have KZ := Lib.hid hz
  have KE := Lib.hid hI.entry
  have KV := Lib.hid hI.vector
  have KM := Lib.hid hm
  have KS := Lib.hid hs
  have KO := Lib.hid ho
  have KR := Lib.hid hr
  clear hI hs ho hr HT hx hy hz hm
  show Calls Try.prog 17 #[.agg #[.slice p1 I.banks.length c1, .int .u16 I.entry, .int .u16 I.vector, .slice p2 I.data.length c2, .slice p3 I.relocs.length c3], .agg #[.int .i64 x, .int .i64 y, .int .i64 z]] w _
  go_enter Try.func17, Try.ntmps17
  go_wp2_with fail
  refine (own_any p1 c1 p2 c2 p3 c3 I _ HIk.out (by omega) (by omega) (by omega) (OwnPost I _) (fun _ _ h => h)).mono ?_
  rintro e w1 ⟨v1, v2, v3, rfl, hO, hB⟩
  obtain ⟨q1, d1, rfl, _⟩ := own_slice hO.o1
  obtain ⟨q2, d2, rfl, _⟩ := own_slice hO.o2
  obtain ⟨q3, d3, rfl, _⟩ := own_slice hO.o3
  obtain ⟨n0, n1, n2, n3, n4, fz, hT⟩ := KT.out w1 _ _ _ hB hO
  have HT := Lib.hid hT
  have fz0 := fz 0
  have fz1 := fz 1
  have fz2 := fz 2
  have fz3 := fz 3
  have fz4 := fz 4
  obtain ⟨_, _, _, _, _, _, a0, a1, a2, _, _, _, _, _, _, _, _, _, _, _, _⟩ := hT
  clear KT hO hB HIk fz
  go_wp2_with fail
  generalize ((((w1.setCell ⟨w.heap.size, 0, none⟩ (.slice q1 I.banks.length d1)).setCell ⟨w.heap.size, 1, none⟩ (.int .u16 I.entry)).setCell ⟨w.heap.size, 2, none⟩ (.int .u16 I.vector)).setCell ⟨w.heap.size, 3, none⟩ (.slice q2 I.data.length d2)).setCell ⟨w.heap.size, 4, none⟩ (.slice q3 I.relocs.length d3) = W2 at *
  clear n0 n1 n2 n3 n4 fz0 fz1 fz2 fz3 fz4
  have hmod := mod_any x 12 W2 KX.out (by decide) (by decide)
  rw [KM.out] at hmod
  refine hmod.mono ?_
  rintro e w' ⟨rfl, rfl⟩
  clear hmod
  have wz : IntKind.u16.wrap z = z % 65536 := IntKind.wrap_u16 _
  obtain ⟨i0, i1, i2, i3, i4, fi, a0, a1, a2, _, _, _, _, _, _, _, _, _, _, _, _⟩ := HT.out
  have f0 := fi 0
  have f1 := fi 1
  have f2 := fi 2
  have f3 := fi 3
  have f4 := fi 4
  clear fi
  obtain ⟨r, hr, HMr⟩ := mod_var' y 4 KY.out (by decide) (by decide)
  obtain ⟨m, hm, HMm⟩ := mod_var' z 4096 KZ.out (by decide) (by decide)
  have Kr := Lib.hid HMr
  have Km := Lib.hid HMm
  have wm : IntKind.u16.wrap (m : Int) = m := wrap_in _ (by omega) (by omega)
  have HT4 := Lib.hid (HT.out.next (Below.drew (Below.refl W2.heap.size W2)))
  obtain ⟨i41, hi41, hz41, hs41, hb41⟩ := info_parts infoRel
  have HA := Lib.hid (HT4.out.next (below1 W2.drew (Obj.cells #[.int .i64 (r : Int), .int .u16 (m : Int)] 41)))
  have h63 : I.relocs.length + 1 ≤ maxLen := by unfold maxLen; omega
  have hbt : (I.relocs.length + 1) * 16 ≤ 140737488355328 := by omega
  have hbs := HA.out.size
  have z4 : ∀ o, (W2.alloc o).cell? ⟨w.heap.size, 4, none⟩ = some (.slice q3 I.relocs.length d3) := fun o => (World.cell?_alloc_some _ _ _ (by rw [i4]; rfl)).trans i4
  have z4' : ∀ o, (W2.drew.alloc o).cell? ⟨w.heap.size, 4, none⟩ = some (.slice q3 I.relocs.length d3) := z4
  have z1 : ∀ o, (W2.drew.alloc o).cell? ⟨w.heap.size + 1, 1, none⟩ = some (.int .i64 y) := fun o => (HT4.out.next (below1 W2.drew o)).q1
  have z2 : ∀ o, (W2.drew.alloc o).cell? ⟨w.heap.size + 1, 2, none⟩ = some (.int .i64 z) := fun o => (HT4.out.next (below1 W2.drew o)).q2
  have Kok : Hid (RelI.ok ⟨r, m⟩) := ⟨⟨by show -9223372036854775808 ≤ (r : Int); omega, by show (r : Int) ≤ 9223372036854775807; omega⟩, ⟨by show 0 ≤ (m : Int); omega, by show (m : Int) < 65536; omega⟩⟩
  clear HMr HMm
  go_wp2_with fail
  refine wp_region_noPanic ?_
  refine wp_region_held_drew (S := fun W => W.cell? ⟨w.heap.size + 1, 1, none⟩ = some (.int .i64 y) ∧ W.cell? ⟨w.heap.size + 1, 2, none⟩ = some (.int .i64 z)) (by kernel_rfl) ⟨a1, a2⟩ (fun hHeld => ?_)
  refine wpAnyH_take (i := 0) (v := ?v0_1) (by simp only [List.getElem?_toArray, List.getElem?_cons_succ, List.getElem?_cons_zero]; rfl) (by kernel_rfl) (by kernel_rfl) (by kernel_rfl) (fun _ _ _ h => h) (Or.inl ⟨by rfl, ?hy0_1⟩) (by assumption) ?rest0_1
  case hy0_1 =>
    intro w9 hSw
    obtain ⟨hs1, hs2⟩ := hSw
    try dsimp only at hs1 hs2
    go_simp
    all_goals with_reducible rfl
  try simp only [Act.put, List.setIfInBounds_toArray, List.set_cons_zero, List.set_cons_succ]
  refine wpAnyH_take (i := 2) (v := ?v2_2) (by simp only [List.getElem?_toArray, List.getElem?_cons_succ, List.getElem?_cons_zero]; rfl) (by kernel_rfl) (by kernel_rfl) (by kernel_rfl) (fun _ _ _ h => h) (Or.inl ⟨by rfl, ?hy2_2⟩) (by assumption) ?rest2_2
  case hy2_2 =>
    intro w9 hSw
    obtain ⟨hs1, hs2⟩ := hSw
    try dsimp only at hs1 hs2
    go_simp
    all_goals with_reducible rfl
  try simp only [Act.put, List.setIfInBounds_toArray, List.set_cons_zero, List.set_cons_succ]
  refine wpAnyH_take (i := 3) (v := ?v3_3) (by simp only [List.getElem?_toArray, List.getElem?_cons_succ, List.getElem?_cons_zero]; rfl) (by kernel_rfl) (by kernel_rfl) (by kernel_rfl) (fun _ _ _ h => h) (Or.inl ⟨by rfl, ?hy3_3⟩) (by assumption) ?rest3_3
  case hy3_3 =>
    intro w9 hSw
    obtain ⟨hs1, hs2⟩ := hSw
    try dsimp only at hs1 hs2
    go_simp
    all_goals with_reducible rfl
  try simp only [Act.put, List.setIfInBounds_toArray, List.set_cons_zero, List.set_cons_succ]
  refine wpAnyH_take (i := 5) (v := ?v5_4) (by simp only [List.getElem?_toArray, List.getElem?_cons_succ, List.getElem?_cons_zero]; rfl) (by kernel_rfl) (by kernel_rfl) (by kernel_rfl) (fun _ _ _ h => h) (Or.inl ⟨by rfl, ?hy5_4⟩) (by assumption) ?rest5_4
  case hy5_4 =>
    intro w9 hSw
    obtain ⟨hs1, hs2⟩ := hSw
    try dsimp only at hs1 hs2
    go_simp
    all_goals with_reducible rfl
  try simp only [Act.put, List.setIfInBounds_toArray, List.set_cons_zero, List.set_cons_succ]
  refine wpAnyH_take (i := 6) (v := ?v6_5) (by simp only [List.getElem?_toArray, List.getElem?_cons_succ, List.getElem?_cons_zero]; rfl) (by kernel_rfl) (by kernel_rfl) (by kernel_rfl) (fun _ _ _ h => h) (Or.inl ⟨by rfl, ?hy6_5⟩) (by assumption) ?rest6_5
  case hy6_5 =>
    intro w9 hSw
    obtain ⟨hs1, hs2⟩ := hSw
    try dsimp only at hs1 hs2
    go_simp
    all_goals with_reducible rfl
  try simp only [Act.put, List.setIfInBounds_toArray, List.set_cons_zero, List.set_cons_succ]
  refine wpAnyH_ready (rs := [1, 4]) (by kernel_rfl) (by simp) ?_
  refine (AllReadyH.cons (by simp only [List.getElem?_toArray, List.getElem?_cons_succ, List.getElem?_cons_zero]; rfl) (fun K hK => ?_) (AllReadyH.cons (by simp only [List.getElem?_toArray, List.getElem?_cons_succ, List.getElem?_cons_zero]; rfl) (fun K hK => ?_) AllReadyH.nil))
  · go_simp
    refine hK.out _ _ (by first | exact ⟨a1, a2⟩ | exact ⟨z1 _, z2 _⟩) (fun hHeld => ?_)
    clear hK K
    try simp only [Act.put, List.setIfInBounds_toArray, List.set_cons_zero, List.set_cons_succ]
    refine wpAnyH_ready (rs := [4]) (by kernel_rfl) (by simp) ?_
    refine (AllReadyH.cons (by simp only [List.getElem?_toArray, List.getElem?_cons_succ, List.getElem?_cons_zero]; rfl) (fun K hK => ?_) AllReadyH.nil)
    go_simp
    go_at_call 20
    refine (Kr.out _).mono ?_
    rintro e w9 ⟨rfl, rfl⟩
    refine hK.out _ _ ⟨a1, a2⟩ (fun hHeld => ?_)
    clear hK K
    try simp only [Act.put, List.setIfInBounds_toArray, List.set_cons_zero, List.set_cons_succ]
    refine wpAnyH_ready (rs := [7]) (by kernel_rfl) (by simp) ?_
    refine (AllReadyH.cons (by simp only [List.getElem?_toArray, List.getElem?_cons_succ, List.getElem?_cons_zero]; rfl) (fun K hK => ?_) AllReadyH.nil)
    go_simp
    go_at_call 20
    refine (Km.out _).mono ?_
    rintro e w9 ⟨rfl, rfl⟩
    refine hK.out _ _ ⟨a1, a2⟩ (fun hHeld => ?_)
    clear hK K
    try simp only [Act.put, List.setIfInBounds_toArray, List.set_cons_zero, List.set_cons_succ]
    refine wpAnyH_take (i := 8) (v := ?v8_6) (by simp only [List.getElem?_toArray, List.getElem?_cons_succ, List.getElem?_cons_zero]; rfl) (by kernel_rfl) (by kernel_rfl) (by kernel_rfl) (fun _ _ _ h => h) (Or.inl ⟨by rfl, ?hy8_6⟩) (by assumption) ?rest8_6
    case hy8_6 =>
      intro w9 hSw
      obtain ⟨hs1, hs2⟩ := hSw
      try dsimp only at hs1 hs2
      go_simp
      all_goals with_reducible rfl
    try simp only [Act.put, List.setIfInBounds_toArray, List.set_cons_zero, List.set_cons_succ]
    refine wpAnyH_take (i := 9) (v := ?v9_7) (by simp only [List.getElem?_toArray, List.getElem?_cons_succ, List.getElem?_cons_zero]; rfl) (by kernel_rfl) (by kernel_rfl) (by kernel_rfl) (fun _ _ _ h => h) (Or.inl ⟨by rfl, ?hy9_7⟩) (by assumption) ?rest9_7
    case hy9_7 =>
      intro w9 hSw
      obtain ⟨hs1, hs2⟩ := hSw
      try dsimp only at hs1 hs2
      go_simp
      all_goals with_reducible rfl
    try simp only [Act.put, List.setIfInBounds_toArray, List.set_cons_zero, List.set_cons_succ]
    refine wpAnyH_ready (rs := [10]) (by kernel_rfl) (by simp) ?_
    refine (AllReadyH.cons (by simp only [List.getElem?_toArray, List.getElem?_cons_succ, List.getElem?_cons_zero]; rfl) (fun K hK => ?_) AllReadyH.nil)
    go_simp
    refine hK.out _ _ ⟨z1 _, z2 _⟩ (fun hHeld => ?_)
    clear hK K
    try simp only [Act.put, List.setIfInBounds_toArray, List.set_cons_zero, List.set_cons_succ]
    refine wpAnyH_ready (rs := [11]) (by kernel_rfl) (by simp) ?_
    refine (AllReadyH.cons (by simp only [List.getElem?_toArray, List.getElem?_cons_succ, List.getElem?_cons_zero]; rfl) (fun K hK => ?_) AllReadyH.nil)
    refine step_append_lies _ (by rfl) (.tmp 206) (.tmp 215) 28 (by rfl) (w.heap.size + 3) 41 i41 (.agg #[.int .i64 0, .int .u16 0]) 2 16 Try.underlying28 hi41 hz41 hs41 hb41 rfl (by decide) (.slice q3 I.relocs.length d3) I.relocs.length _ (by rfl) HA.out.o3 ⟨W2.drew.heap.size, 0, none⟩ 1 1 (RelI.cells ⟨r, m⟩) (by rfl) rfl (news_rel ⟨r, m⟩) (one_rel ⟨r, m⟩) (by decide) h63 hbt hbs _ rfl ?_
    intro g cap w3 hown hg _ _
    obtain ⟨⟨j0, j1, j2, j3, j4, fj, j5, j6⟩, hT2⟩ := HA.out.push3 ⟨r, m⟩ Kok.out hown hg
    have HT2 := Lib.hid hT2
    have fj4 := fj 4
    clear hT2 fj hown hg
    refine hK.out _ _ ⟨j5, j6⟩ (fun hHeld => ?_)
    clear hK K
    try simp only [Act.put, List.setIfInBounds_toArray, List.set_cons_zero, List.set_cons_succ]
    refine wpAnyH_take (i := 12) (v := ?v12_8) (by simp only [List.getElem?_toArray, List.getElem?_cons_succ, List.getElem?_cons_zero]; rfl) (by kernel_rfl) (by kernel_rfl) (by kernel_rfl) (fun _ _ _ h => h) (Or.inl ⟨by rfl, ?hy12_8⟩) (by assumption) ?rest12_8
    case hy12_8 =>
      intro w9 hSw
      obtain ⟨hs1, hs2⟩ := hSw
      try dsimp only at hs1 hs2
      go_simp
      all_goals with_reducible rfl
    try simp only [Act.put, List.setIfInBounds_toArray, List.set_cons_zero, List.set_cons_succ]
    refine wpAnyH_ready (rs := [13]) (by kernel_rfl) (by simp) ?_
    refine (AllReadyH.cons (by simp only [List.getElem?_toArray, List.getElem?_cons_succ, List.getElem?_cons_zero]; rfl) (fun K hK => ?_) AllReadyH.nil)
    go_simp
    refine hK.out _ _ ⟨HT2.out.q1, HT2.out.q2⟩ (fun hHeld => ?_)
    clear hK K
    try simp only [Act.put, List.setIfInBounds_toArray, List.set_cons_zero, List.set_cons_succ]
    refine wpAnyH_done (by kernel_rfl) ?_ _
    refine NoPanic.normal ?_
    clear i0 i1 i2 i3 i4 f0 f1 f2 f3 f4 a0 a1 a2 z4 z4' z1 z2 hHeld
    clear HT HT4 HA
    have i4 := j4
    obtain ⟨WF, hWF, x0, x1, x2, x3, x4, hP⟩ := TMem.out (I := I) HT2.out (by simp) (by simp) (by simp) b1 b2 b3
    obtain ⟨i0, i1, i2, i3, i4, fi, a0, a1, a2, ht, hft, _, _, _, _, _, _, _, _, _, _⟩ := HT2.out
    obtain ⟨u0, t0⟩ := ht 0 (by decide)
    obtain ⟨u1, t1⟩ := ht 1 (by decide)
    obtain ⟨u2, t2⟩ := ht 2 (by decide)
    obtain ⟨u3, t3⟩ := ht 3 (by decide)
    obtain ⟨u4, t4⟩ := ht 4 (by decide)
    have g0 := hft 0
    have g1 := hft 1
    have g2 := hft 2
    have g3 := hft 3
    have g4 := hft 4
    have HWF := Lib.hid hWF
    have HP := Lib.hid hP
    have HX := Lib.hid (And.intro x0 (And.intro x1 (And.intro x2 (And.intro x3 x4))))
    clear ht hft hWF hP x0 x1 x2 x3 x4 fi
    try dsimp only at i0 i1 i2 i3 i4
    go_wp2_with fail
    obtain ⟨x0, x1, x2, x3, x4⟩ := HX.out
    have hWF := HWF.out
    try dsimp only at hWF x0 x1 x2 x3 x4
    rw [← hWF]
    clear hWF HWF
    exact bodyPost_ret (v := .agg #[.slice q1 I.banks.length d1, .int .u16 I.entry, .int .u16 I.vector, .slice q2 I.data.length d2, .slice (some ⟨g, 0, none⟩) (I.relocs.length + 1) cap]) (by simp [results, Try.results17, go_sem, x0, x1, x2, x3, x4]) rfl (HR.out _ _ HP.out)
  · go_simp
    go_at_call 20
    refine (Kr.out _).mono ?_
    rintro e w9 ⟨rfl, rfl⟩
    refine hK.out _ _ ⟨a1, a2⟩ (fun hHeld => ?_)
    clear hK K
    try simp only [Act.put, List.setIfInBounds_toArray, List.set_cons_zero, List.set_cons_succ]
    refine wpAnyH_ready (rs := [1, 7]) (by kernel_rfl) (by simp) ?_
    refine (AllReadyH.cons (by simp only [List.getElem?_toArray, List.getElem?_cons_succ, List.getElem?_cons_zero]; rfl) (fun K hK => ?_) (AllReadyH.cons (by simp only [List.getElem?_toArray, List.getElem?_cons_succ, List.getElem?_cons_zero]; rfl) (fun K hK => ?_) AllReadyH.nil))
    · go_simp
      refine hK.out _ _ (by first | exact ⟨a1, a2⟩ | exact ⟨z1 _, z2 _⟩) (fun hHeld => ?_)
      clear hK K
      try simp only [Act.put, List.setIfInBounds_toArray, List.set_cons_zero, List.set_cons_succ]
      refine wpAnyH_ready (rs := [7]) (by kernel_rfl) (by simp) ?_
      refine (AllReadyH.cons (by simp only [List.getElem?_toArray, List.getElem?_cons_succ, List.getElem?_cons_zero]; rfl) (fun K hK => ?_) AllReadyH.nil)
      go_simp
      go_at_call 20
      refine (Km.out _).mono ?_
      rintro e w9 ⟨rfl, rfl⟩
      refine hK.out _ _ ⟨a1, a2⟩ (fun hHeld => ?_)
      clear hK K
      try simp only [Act.put, List.setIfInBounds_toArray, List.set_cons_zero, List.set_cons_succ]
      refine wpAnyH_take (i := 8) (v := ?v8_9) (by simp only [List.getElem?_toArray, List.getElem?_cons_succ, List.getElem?_cons_zero]; rfl) (by kernel_rfl) (by kernel_rfl) (by kernel_rfl) (fun _ _ _ h => h) (Or.inl ⟨by rfl, ?hy8_9⟩) (by assumption) ?rest8_9
      case hy8_9 =>
        intro w9 hSw
        obtain ⟨hs1, hs2⟩ := hSw
        try dsimp only at hs1 hs2
        go_simp
        all_goals with_reducible rfl
      try simp only [Act.put, List.setIfInBounds_toArray, List.set_cons_zero, List.set_cons_succ]
      refine wpAnyH_take (i := 9) (v := ?v9_10) (by simp only [List.getElem?_toArray, List.getElem?_cons_succ, List.getElem?_cons_zero]; rfl) (by kernel_rfl) (by kernel_rfl) (by kernel_rfl) (fun _ _ _ h => h) (Or.inl ⟨by rfl, ?hy9_10⟩) (by assumption) ?rest9_10
      case hy9_10 =>
        intro w9 hSw
        obtain ⟨hs1, hs2⟩ := hSw
        try dsimp only at hs1 hs2
        go_simp
        all_goals with_reducible rfl
      try simp only [Act.put, List.setIfInBounds_toArray, List.set_cons_zero, List.set_cons_succ]
      refine wpAnyH_ready (rs := [10]) (by kernel_rfl) (by simp) ?_
      refine (AllReadyH.cons (by simp only [List.getElem?_toArray, List.getElem?_cons_succ, List.getElem?_cons_zero]; rfl) (fun K hK => ?_) AllReadyH.nil)
      go_simp
      refine hK.out _ _ ⟨z1 _, z2 _⟩ (fun hHeld => ?_)
      clear hK K
      try simp only [Act.put, List.setIfInBounds_toArray, List.set_cons_zero, List.set_cons_succ]
      refine wpAnyH_ready (rs := [11]) (by kernel_rfl) (by simp) ?_
      refine (AllReadyH.cons (by simp only [List.getElem?_toArray, List.getElem?_cons_succ, List.getElem?_cons_zero]; rfl) (fun K hK => ?_) AllReadyH.nil)
      refine step_append_lies _ (by rfl) (.tmp 206) (.tmp 215) 28 (by rfl) (w.heap.size + 3) 41 i41 (.agg #[.int .i64 0, .int .u16 0]) 2 16 Try.underlying28 hi41 hz41 hs41 hb41 rfl (by decide) (.slice q3 I.relocs.length d3) I.relocs.length _ (by rfl) HA.out.o3 ⟨W2.drew.heap.size, 0, none⟩ 1 1 (RelI.cells ⟨r, m⟩) (by rfl) rfl (news_rel ⟨r, m⟩) (one_rel ⟨r, m⟩) (by decide) h63 hbt hbs _ rfl ?_
      intro g cap w3 hown hg _ _
      obtain ⟨⟨j0, j1, j2, j3, j4, fj, j5, j6⟩, hT2⟩ := HA.out.push3 ⟨r, m⟩ Kok.out hown hg
      have HT2 := Lib.hid hT2
      have fj4 := fj 4
      clear hT2 fj hown hg
      refine hK.out _ _ ⟨j5, j6⟩ (fun hHeld => ?_)
      clear hK K
      try simp only [Act.put, List.setIfInBounds_toArray, List.set_cons_zero, List.set_cons_succ]
      refine wpAnyH_take (i := 12) (v := ?v12_11) (by simp only [List.getElem?_toArray, List.getElem?_cons_succ, List.getElem?_cons_zero]; rfl) (by kernel_rfl) (by kernel_rfl) (by kernel_rfl) (fun _ _ _ h => h) (Or.inl ⟨by rfl, ?hy12_11⟩) (by assumption) ?rest12_11
      case hy12_11 =>
        intro w9 hSw
        obtain ⟨hs1, hs2⟩ := hSw
        try dsimp only at hs1 hs2
        go_simp
        all_goals with_reducible rfl
      try simp only [Act.put, List.setIfInBounds_toArray, List.set_cons_zero, List.set_cons_succ]
      refine wpAnyH_ready (rs := [13]) (by kernel_rfl) (by simp) ?_
      refine (AllReadyH.cons (by simp only [List.getElem?_toArray, List.getElem?_cons_succ, List.getElem?_cons_zero]; rfl) (fun K hK => ?_) AllReadyH.nil)
      go_simp
      refine hK.out _ _ ⟨HT2.out.q1, HT2.out.q2⟩ (fun hHeld => ?_)
      clear hK K
      try simp only [Act.put, List.setIfInBounds_toArray, List.set_cons_zero, List.set_cons_succ]
      refine wpAnyH_done (by kernel_rfl) ?_ _
      refine NoPanic.normal ?_
      clear i0 i1 i2 i3 i4 f0 f1 f2 f3 f4 a0 a1 a2 z4 z4' z1 z2 hHeld
      clear HT HT4 HA
      have i4 := j4
      obtain ⟨WF, hWF, x0, x1, x2, x3, x4, hP⟩ := TMem.out (I := I) HT2.out (by simp) (by simp) (by simp) b1 b2 b3
      obtain ⟨i0, i1, i2, i3, i4, fi, a0, a1, a2, ht, hft, _, _, _, _, _, _, _, _, _, _⟩ := HT2.out
      obtain ⟨u0, t0⟩ := ht 0 (by decide)
      obtain ⟨u1, t1⟩ := ht 1 (by decide)
      obtain ⟨u2, t2⟩ := ht 2 (by decide)
      obtain ⟨u3, t3⟩ := ht 3 (by decide)
      obtain ⟨u4, t4⟩ := ht 4 (by decide)
      have g0 := hft 0
      have g1 := hft 1
      have g2 := hft 2
      have g3 := hft 3
      have g4 := hft 4
      have HWF := Lib.hid hWF
      have HP := Lib.hid hP
      have HX := Lib.hid (And.intro x0 (And.intro x1 (And.intro x2 (And.intro x3 x4))))
      clear ht hft hWF hP x0 x1 x2 x3 x4 fi
      try dsimp only at i0 i1 i2 i3 i4
      go_wp2_with fail
      obtain ⟨x0, x1, x2, x3, x4⟩ := HX.out
      have hWF := HWF.out
      try dsimp only at hWF x0 x1 x2 x3 x4
      rw [← hWF]
      clear hWF HWF
      exact bodyPost_ret (v := .agg #[.slice q1 I.banks.length d1, .int .u16 I.entry, .int .u16 I.vector, .slice q2 I.data.length d2, .slice (some ⟨g, 0, none⟩) (I.relocs.length + 1) cap]) (by simp [results, Try.results17, go_sem, x0, x1, x2, x3, x4]) rfl (HR.out _ _ HP.out)
    · go_simp
      go_at_call 20
      refine (Km.out _).mono ?_
      rintro e w9 ⟨rfl, rfl⟩
      refine hK.out _ _ ⟨a1, a2⟩ (fun hHeld => ?_)
      clear hK K
      try simp only [Act.put, List.setIfInBounds_toArray, List.set_cons_zero, List.set_cons_succ]
      refine wpAnyH_take (i := 8) (v := ?v8_12) (by simp only [List.getElem?_toArray, List.getElem?_cons_succ, List.getElem?_cons_zero]; rfl) (by kernel_rfl) (by kernel_rfl) (by kernel_rfl) (fun _ _ _ h => h) (Or.inl ⟨by rfl, ?hy8_12⟩) (by assumption) ?rest8_12
      case hy8_12 =>
        intro w9 hSw
        obtain ⟨hs1, hs2⟩ := hSw
        try dsimp only at hs1 hs2
        go_simp
        all_goals with_reducible rfl
      try simp only [Act.put, List.setIfInBounds_toArray, List.set_cons_zero, List.set_cons_succ]
      refine wpAnyH_take (i := 9) (v := ?v9_13) (by simp only [List.getElem?_toArray, List.getElem?_cons_succ, List.getElem?_cons_zero]; rfl) (by kernel_rfl) (by kernel_rfl) (by kernel_rfl) (fun _ _ _ h => h) (Or.inl ⟨by rfl, ?hy9_13⟩) (by assumption) ?rest9_13
      case hy9_13 =>
        intro w9 hSw
        obtain ⟨hs1, hs2⟩ := hSw
        try dsimp only at hs1 hs2
        go_simp
        all_goals with_reducible rfl
      try simp only [Act.put, List.setIfInBounds_toArray, List.set_cons_zero, List.set_cons_succ]
      refine wpAnyH_ready (rs := [1, 10]) (by kernel_rfl) (by simp) ?_
      refine (AllReadyH.cons (by simp only [List.getElem?_toArray, List.getElem?_cons_succ, List.getElem?_cons_zero]; rfl) (fun K hK => ?_) (AllReadyH.cons (by simp only [List.getElem?_toArray, List.getElem?_cons_succ, List.getElem?_cons_zero]; rfl) (fun K hK => ?_) AllReadyH.nil))
      · go_simp
        refine hK.out _ _ (by first | exact ⟨a1, a2⟩ | exact ⟨z1 _, z2 _⟩) (fun hHeld => ?_)
        clear hK K
        try simp only [Act.put, List.setIfInBounds_toArray, List.set_cons_zero, List.set_cons_succ]
        refine wpAnyH_ready (rs := [10]) (by kernel_rfl) (by simp) ?_
        refine (AllReadyH.cons (by simp only [List.getElem?_toArray, List.getElem?_cons_succ, List.getElem?_cons_zero]; rfl) (fun K hK => ?_) AllReadyH.nil)
        go_simp
        refine hK.out _ _ ⟨z1 _, z2 _⟩ (fun hHeld => ?_)
        clear hK K
        try simp only [Act.put, List.setIfInBounds_toArray, List.set_cons_zero, List.set_cons_succ]
        refine wpAnyH_ready (rs := [11]) (by kernel_rfl) (by simp) ?_
        refine (AllReadyH.cons (by simp only [List.getElem?_toArray, List.getElem?_cons_succ, List.getElem?_cons_zero]; rfl) (fun K hK => ?_) AllReadyH.nil)
        refine step_append_lies _ (by rfl) (.tmp 206) (.tmp 215) 28 (by rfl) (w.heap.size + 3) 41 i41 (.agg #[.int .i64 0, .int .u16 0]) 2 16 Try.underlying28 hi41 hz41 hs41 hb41 rfl (by decide) (.slice q3 I.relocs.length d3) I.relocs.length _ (by rfl) HA.out.o3 ⟨W2.drew.heap.size, 0, none⟩ 1 1 (RelI.cells ⟨r, m⟩) (by rfl) rfl (news_rel ⟨r, m⟩) (one_rel ⟨r, m⟩) (by decide) h63 hbt hbs _ rfl ?_
        intro g cap w3 hown hg _ _
        obtain ⟨⟨j0, j1, j2, j3, j4, fj, j5, j6⟩, hT2⟩ := HA.out.push3 ⟨r, m⟩ Kok.out hown hg
        have HT2 := Lib.hid hT2
        have fj4 := fj 4
        clear hT2 fj hown hg
        refine hK.out _ _ ⟨j5, j6⟩ (fun hHeld => ?_)
        clear hK K
        try simp only [Act.put, List.setIfInBounds_toArray, List.set_cons_zero, List.set_cons_succ]
        refine wpAnyH_take (i := 12) (v := ?v12_14) (by simp only [List.getElem?_toArray, List.getElem?_cons_succ, List.getElem?_cons_zero]; rfl) (by kernel_rfl) (by kernel_rfl) (by kernel_rfl) (fun _ _ _ h => h) (Or.inl ⟨by rfl, ?hy12_14⟩) (by assumption) ?rest12_14
        case hy12_14 =>
          intro w9 hSw
          obtain ⟨hs1, hs2⟩ := hSw
          try dsimp only at hs1 hs2
          go_simp
          all_goals with_reducible rfl
        try simp only [Act.put, List.setIfInBounds_toArray, List.set_cons_zero, List.set_cons_succ]
        refine wpAnyH_ready (rs := [13]) (by kernel_rfl) (by simp) ?_
        refine (AllReadyH.cons (by simp only [List.getElem?_toArray, List.getElem?_cons_succ, List.getElem?_cons_zero]; rfl) (fun K hK => ?_) AllReadyH.nil)
        go_simp
        refine hK.out _ _ ⟨HT2.out.q1, HT2.out.q2⟩ (fun hHeld => ?_)
        clear hK K
        try simp only [Act.put, List.setIfInBounds_toArray, List.set_cons_zero, List.set_cons_succ]
        refine wpAnyH_done (by kernel_rfl) ?_ _
        refine NoPanic.normal ?_
        clear i0 i1 i2 i3 i4 f0 f1 f2 f3 f4 a0 a1 a2 z4 z4' z1 z2 hHeld
        clear HT HT4 HA
        have i4 := j4
        obtain ⟨WF, hWF, x0, x1, x2, x3, x4, hP⟩ := TMem.out (I := I) HT2.out (by simp) (by simp) (by simp) b1 b2 b3
        obtain ⟨i0, i1, i2, i3, i4, fi, a0, a1, a2, ht, hft, _, _, _, _, _, _, _, _, _, _⟩ := HT2.out
        obtain ⟨u0, t0⟩ := ht 0 (by decide)
        obtain ⟨u1, t1⟩ := ht 1 (by decide)
        obtain ⟨u2, t2⟩ := ht 2 (by decide)
        obtain ⟨u3, t3⟩ := ht 3 (by decide)
        obtain ⟨u4, t4⟩ := ht 4 (by decide)
        have g0 := hft 0
        have g1 := hft 1
        have g2 := hft 2
        have g3 := hft 3
        have g4 := hft 4
        have HWF := Lib.hid hWF
        have HP := Lib.hid hP
        have HX := Lib.hid (And.intro x0 (And.intro x1 (And.intro x2 (And.intro x3 x4))))
        clear ht hft hWF hP x0 x1 x2 x3 x4 fi
        try dsimp only at i0 i1 i2 i3 i4
        go_wp2_with fail
        obtain ⟨x0, x1, x2, x3, x4⟩ := HX.out
        have hWF := HWF.out
        try dsimp only at hWF x0 x1 x2 x3 x4
        rw [← hWF]
        clear hWF HWF
        exact bodyPost_ret (v := .agg #[.slice q1 I.banks.length d1, .int .u16 I.entry, .int .u16 I.vector, .slice q2 I.data.length d2, .slice (some ⟨g, 0, none⟩) (I.relocs.length + 1) cap]) (by simp [results, Try.results17, go_sem, x0, x1, x2, x3, x4]) rfl (HR.out _ _ HP.out)
      · go_simp
        refine hK.out _ _ ⟨z1 _, z2 _⟩ (fun hHeld => ?_)
        clear hK K
        try simp only [Act.put, List.setIfInBounds_toArray, List.set_cons_zero, List.set_cons_succ]
        refine wpAnyH_ready (rs := [1]) (by kernel_rfl) (by simp) ?_
        refine (AllReadyH.cons (by simp only [List.getElem?_toArray, List.getElem?_cons_succ, List.getElem?_cons_zero]; rfl) (fun K hK => ?_) AllReadyH.nil)
        go_simp
        refine hK.out _ _ (by first | exact ⟨a1, a2⟩ | exact ⟨z1 _, z2 _⟩) (fun hHeld => ?_)
        clear hK K
        try simp only [Act.put, List.setIfInBounds_toArray, List.set_cons_zero, List.set_cons_succ]
        refine wpAnyH_ready (rs := [11]) (by kernel_rfl) (by simp) ?_
        refine (AllReadyH.cons (by simp only [List.getElem?_toArray, List.getElem?_cons_succ, List.getElem?_cons_zero]; rfl) (fun K hK => ?_) AllReadyH.nil)
        refine step_append_lies _ (by rfl) (.tmp 206) (.tmp 215) 28 (by rfl) (w.heap.size + 3) 41 i41 (.agg #[.int .i64 0, .int .u16 0]) 2 16 Try.underlying28 hi41 hz41 hs41 hb41 rfl (by decide) (.slice q3 I.relocs.length d3) I.relocs.length _ (by rfl) HA.out.o3 ⟨W2.drew.heap.size, 0, none⟩ 1 1 (RelI.cells ⟨r, m⟩) (by rfl) rfl (news_rel ⟨r, m⟩) (one_rel ⟨r, m⟩) (by decide) h63 hbt hbs _ rfl ?_
        intro g cap w3 hown hg _ _
        obtain ⟨⟨j0, j1, j2, j3, j4, fj, j5, j6⟩, hT2⟩ := HA.out.push3 ⟨r, m⟩ Kok.out hown hg
        have HT2 := Lib.hid hT2
        have fj4 := fj 4
        clear hT2 fj hown hg
        refine hK.out _ _ ⟨j5, j6⟩ (fun hHeld => ?_)
        clear hK K
        try simp only [Act.put, List.setIfInBounds_toArray, List.set_cons_zero, List.set_cons_succ]
        refine wpAnyH_take (i := 12) (v := ?v12_15) (by simp only [List.getElem?_toArray, List.getElem?_cons_succ, List.getElem?_cons_zero]; rfl) (by kernel_rfl) (by kernel_rfl) (by kernel_rfl) (fun _ _ _ h => h) (Or.inl ⟨by rfl, ?hy12_15⟩) (by assumption) ?rest12_15
        case hy12_15 =>
          intro w9 hSw
          obtain ⟨hs1, hs2⟩ := hSw
          try dsimp only at hs1 hs2
          go_simp
          all_goals with_reducible rfl
        try simp only [Act.put, List.setIfInBounds_toArray, List.set_cons_zero, List.set_cons_succ]
        refine wpAnyH_ready (rs := [13]) (by kernel_rfl) (by simp) ?_
        refine (AllReadyH.cons (by simp only [List.getElem?_toArray, List.getElem?_cons_succ, List.getElem?_cons_zero]; rfl) (fun K hK => ?_) AllReadyH.nil)
        go_simp
        refine hK.out _ _ ⟨HT2.out.q1, HT2.out.q2⟩ (fun hHeld => ?_)
        clear hK K
        try simp only [Act.put, List.setIfInBounds_toArray, List.set_cons_zero, List.set_cons_succ]
        refine wpAnyH_done (by kernel_rfl) ?_ _
        refine NoPanic.normal ?_
        clear i0 i1 i2 i3 i4 f0 f1 f2 f3 f4 a0 a1 a2 z4 z4' z1 z2 hHeld
        clear HT HT4 HA
        have i4 := j4
        obtain ⟨WF, hWF, x0, x1, x2, x3, x4, hP⟩ := TMem.out (I := I) HT2.out (by simp) (by simp) (by simp) b1 b2 b3
        obtain ⟨i0, i1, i2, i3, i4, fi, a0, a1, a2, ht, hft, _, _, _, _, _, _, _, _, _, _⟩ := HT2.out
        obtain ⟨u0, t0⟩ := ht 0 (by decide)
        obtain ⟨u1, t1⟩ := ht 1 (by decide)
        obtain ⟨u2, t2⟩ := ht 2 (by decide)
        obtain ⟨u3, t3⟩ := ht 3 (by decide)
        obtain ⟨u4, t4⟩ := ht 4 (by decide)
        have g0 := hft 0
        have g1 := hft 1
        have g2 := hft 2
        have g3 := hft 3
        have g4 := hft 4
        have HWF := Lib.hid hWF
        have HP := Lib.hid hP
        have HX := Lib.hid (And.intro x0 (And.intro x1 (And.intro x2 (And.intro x3 x4))))
        clear ht hft hWF hP x0 x1 x2 x3 x4 fi
        try dsimp only at i0 i1 i2 i3 i4
        go_wp2_with fail
        obtain ⟨x0, x1, x2, x3, x4⟩ := HX.out
        have hWF := HWF.out
        try dsimp only at hWF x0 x1 x2 x3 x4
        rw [← hWF]
        clear hWF HWF
        exact bodyPost_ret (v := .agg #[.slice q1 I.banks.length d1, .int .u16 I.entry, .int .u16 I.vector, .slice q2 I.data.length d2, .slice (some ⟨g, 0, none⟩) (I.relocs.length + 1) cap]) (by simp [results, Try.results17, go_sem, x0, x1, x2, x3, x4]) rfl (HR.out _ _ HP.out)

end Go.Proofs.Ytgdiaaoekkdibaa
namespace Go.Proofs.Ytgdiaaoekkdibaa
open Go.RowKit
theorem turned_any (p1 : Option Addr) (c1 : Nat) (p2 : Option Addr) (c2 : Nat) (p3 : Option Addr) (c3 : Nat) (I : Img) (x y z : Int) (w : World) (hI : ImgAt w p1 p2 p3 I) (hs : ∀ s ∈ I.banks, s.size ≤ 4096) (b1 : I.banks.length ≤ 100000) (b2 : I.data.length ≤ 100000) (b3 : I.relocs.length ≤ 100000) (hx : OkI64 x) (hy : OkI64 y) (hz : OkI64 z) (Rr : Ending → World → Prop) (HR : Hid (∀ e w', TurnedPost I w e w' → Rr e w')) :
    Calls Try.prog 17 #[imgV p1 c1 p2 c2 p3 c3 I, .agg #[.int .i64 x, .int .i64 y, .int .i64 z]] w Rr := by
  have h : x % 12 = 0 ∨ x % 12 = 1 ∨ x % 12 = 2 ∨ x % 12 = 3 ∨ x % 12 = 4 ∨ x % 12 = 5 ∨ x % 12 = 6 ∨ x % 12 = 7 ∨ x % 12 = 8 ∨ x % 12 = 9 ∨ x % 12 = 10 ∨ x % 12 = 11 := by omega
  rcases h with h | h | h | h | h | h | h | h | h | h | h | h
  · exact turned_0 p1 c1 p2 c2 p3 c3 I x y z w hI hs b1 b2 b3 hx hy hz h Rr HR
  · exact turned_1 p1 c1 p2 c2 p3 c3 I x y z w hI hs b1 b2 b3 hx hy hz h Rr HR
  · exact turned_2 p1 c1 p2 c2 p3 c3 I x y z w hI hs b1 b2 b3 hx hy hz h Rr HR
  · exact turned_3 p1 c1 p2 c2 p3 c3 I x y z w hI hs b1 b2 b3 hx hy hz h Rr HR
  · exact turned_4 p1 c1 p2 c2 p3 c3 I x y z w hI hs b1 b2 b3 hx hy hz h Rr HR
  · exact turned_5 p1 c1 p2 c2 p3 c3 I x y z w hI hs b1 b2 b3 hx hy hz h Rr HR
  · exact turned_6 p1 c1 p2 c2 p3 c3 I x y z w hI hs b1 b2 b3 hx hy hz h Rr HR
  · exact turned_7 p1 c1 p2 c2 p3 c3 I x y z w hI hs b1 b2 b3 hx hy hz h Rr HR
  · exact turned_8 p1 c1 p2 c2 p3 c3 I x y z w hI hs b1 b2 b3 hx hy hz h Rr HR
  · exact turned_9 p1 c1 p2 c2 p3 c3 I x y z w hI hs b1 b2 b3 hx hy hz h Rr HR
  · exact turned_10 p1 c1 p2 c2 p3 c3 I x y z w hI hs b1 b2 b3 hx hy hz h Rr HR
  · exact turned_11 p1 c1 p2 c2 p3 c3 I x y z w hI hs b1 b2 b3 hx hy hz h Rr HR
end Go.Proofs.Ytgdiaaoekkdibaa
