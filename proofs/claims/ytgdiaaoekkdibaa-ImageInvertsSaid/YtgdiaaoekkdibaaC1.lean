/- Contracts of slices.Clone at strings, objects and relocations. -/
import Derived.Test.YtgdiaaoekkdibaaO0
import Derived.WalkSpells
namespace Go.Proofs.Ytgdiaaoekkdibaa
set_option linter.unusedVariables false
set_option linter.unusedSimpArgs false
open Go.RowKit
set_option maxRecDepth 8000 in
set_option maxHeartbeats 2000000 in
theorem clone_strs (p : Option Addr) (c : Nat) (l : List ByteArray) (w : World) (hl : l.length ≤ 1000000) (ho : StrsAt w p l) :
    Calls Try.prog 71 #[.slice p l.length c] w fun e w' => ∃ v, e = .returned v ∧ w'.ownsRow w.heap.size 9 1 v l.length (l.map Value.string) ∧ Below w.heap.size w w' := by
  obtain ⟨i9, hi9, hz9, hs9, hb9⟩ := info_parts infoStr
  rcases p with _ | ad
  · have hnil : l = [] := by
      cases l with
      | nil => rfl
      | cons x l => obtain ⟨B, e, _⟩ := ho 0 x rfl; cases e
    subst hnil
    clear ho
    change Calls Try.prog 71 #[.slice none 0 c] w _
    have hk := fun (w : World) => Lib.run_eql_slice_nil (P := Try.prog) w 25 9 none 0 c 0 0 Try.underlying25
    go_enter Try.func71, Try.ntmps71
    go_wp2
    go_ret
    exact ⟨_, rfl, World.ownsRow_nil _ _ _ _, Below.refl _ _⟩
  · have HS := Lib.hid (strs_src ho)
    clear ho
    have hk := fun (w : World) => Lib.run_eql_slice_nil (P := Try.prog) w 25 9 (some ad) l.length c 0 0 Try.underlying25
    have HE := Lib.hid (row_empty w 9 w.heap.size 1 (Nat.le_refl _))
    go_enter Try.func71, Try.ntmps71
    go_wp2_with (at_builtin; refine append_src _ rfl (.tmp 5) (.tmp 6) 25 rfl w.heap.size 9 i9 (.string ByteArray.empty) 1 16 Try.underlying25 hi9 hz9 hs9 hb9 rfl (by decide) _ rfl HE.out (some ad) l.length c (l.map Value.string) rfl (by simp) (HS.out.kept (below1 w _)) ((by intro u hu; obtain ⟨s, _, rfl⟩ := List.mem_map.1 hu; rfl)) (by unfold maxLen; omega) (by omega) (by simp) ?_)
    intro v1 w1 hown1 hg1
    have HO := Lib.hid hown1
    have HB := Lib.hid (((below1 w (Obj.cells #[] 9))).grown hg1 (by simp) (fun k e => by simp [Value.ownBlock] at e; omega))
    clear hown1 hg1
    go_wp2
    go_ret
    exact ⟨v1, rfl, HO.out, HB.out⟩
set_option maxRecDepth 8000 in
set_option maxHeartbeats 2000000 in
theorem clone_objs (p : Option Addr) (c : Nat) (l : List ObjI) (w : World) (hl : l.length ≤ 1000000) (ho : ObjsAt w p l) :
    Calls Try.prog 72 #[.slice p l.length c] w fun e w' => ∃ v, e = .returned v ∧ w'.ownsRow w.heap.size 39 3 v l.length (l.flatMap ObjI.cells) ∧ Below w.heap.size w w' := by
  obtain ⟨i9, hi9, hz9, hs9, hb9⟩ := info_parts infoObj
  rcases p with _ | ad
  · have hnil : l = [] := by
      cases l with
      | nil => rfl
      | cons x l => obtain ⟨B, e, _⟩ := ho 0 x rfl; cases e
    subst hnil
    clear ho
    change Calls Try.prog 72 #[.slice none 0 c] w _
    have hk := fun (w : World) => Lib.run_eql_slice_nil (P := Try.prog) w 27 39 none 0 c 0 0 Try.underlying27
    go_enter Try.func72, Try.ntmps72
    go_wp2
    go_ret
    exact ⟨_, rfl, World.ownsRow_nil _ _ _ _, Below.refl _ _⟩
  · have HS := Lib.hid (objs_src ho)
    clear ho
    have hk := fun (w : World) => Lib.run_eql_slice_nil (P := Try.prog) w 27 39 (some ad) l.length c 0 0 Try.underlying27
    have HE := Lib.hid (row_empty w 39 w.heap.size 3 (Nat.le_refl _))
    go_enter Try.func72, Try.ntmps72
    go_wp2_with (at_builtin; refine append_src _ rfl (.tmp 5) (.tmp 6) 27 rfl w.heap.size 39 i9 (.agg #[.int .i64 0, .int .u16 0, .int .u16 0]) 3 16 Try.underlying27 hi9 hz9 hs9 hb9 rfl (by decide) _ rfl HE.out (some ad) l.length c (l.flatMap ObjI.cells) rfl (by rw [flat_clen ObjI.cells 3 _ (fun _ => rfl)]; omega) (HS.out.kept (below1 w _)) (flat_one ObjI.cells l (fun o => one_obj o)) (by unfold maxLen; omega) (by omega) (by simp) ?_)
    intro v1 w1 hown1 hg1
    have HO := Lib.hid hown1
    have HB := Lib.hid (((below1 w (Obj.cells #[] 39))).grown hg1 (by simp) (fun k e => by simp [Value.ownBlock] at e; omega))
    clear hown1 hg1
    go_wp2
    go_ret
    exact ⟨v1, rfl, HO.out, HB.out⟩
set_option maxRecDepth 8000 in
set_option maxHeartbeats 2000000 in
theorem clone_rels (p : Option Addr) (c : Nat) (l : List RelI) (w : World) (hl : l.length ≤ 1000000) (ho : RelsAt w p l) :
    Calls Try.prog 73 #[.slice p l.length c] w fun e w' => ∃ v, e = .returned v ∧ w'.ownsRow w.heap.size 41 2 v l.length (l.flatMap RelI.cells) ∧ Below w.heap.size w w' := by
  obtain ⟨i9, hi9, hz9, hs9, hb9⟩ := info_parts infoRel
  rcases p with _ | ad
  · have hnil : l = [] := by
      cases l with
      | nil => rfl
      | cons x l => obtain ⟨B, e, _⟩ := ho 0 x rfl; cases e
    subst hnil
    clear ho
    change Calls Try.prog 73 #[.slice none 0 c] w _
    have hk := fun (w : World) => Lib.run_eql_slice_nil (P := Try.prog) w 28 41 none 0 c 0 0 Try.underlying28
    go_enter Try.func73, Try.ntmps73
    go_wp2
    go_ret
    exact ⟨_, rfl, World.ownsRow_nil _ _ _ _, Below.refl _ _⟩
  · have HS := Lib.hid (rels_src ho)
    clear ho
    have hk := fun (w : World) => Lib.run_eql_slice_nil (P := Try.prog) w 28 41 (some ad) l.length c 0 0 Try.underlying28
    have HE := Lib.hid (row_empty w 41 w.heap.size 2 (Nat.le_refl _))
    go_enter Try.func73, Try.ntmps73
    go_wp2_with (at_builtin; refine append_src _ rfl (.tmp 5) (.tmp 6) 28 rfl w.heap.size 41 i9 (.agg #[.int .i64 0, .int .u16 0]) 2 16 Try.underlying28 hi9 hz9 hs9 hb9 rfl (by decide) _ rfl HE.out (some ad) l.length c (l.flatMap RelI.cells) rfl (by rw [flat_clen RelI.cells 2 _ (fun _ => rfl)]; omega) (HS.out.kept (below1 w _)) (flat_one RelI.cells l (fun o => one_rel o)) (by unfold maxLen; omega) (by omega) (by simp) ?_)
    intro v1 w1 hown1 hg1
    have HO := Lib.hid hown1
    have HB := Lib.hid (((below1 w (Obj.cells #[] 41))).grown hg1 (by simp) (fun k e => by simp [Value.ownBlock] at e; omega))
    clear hown1 hg1
    go_wp2
    go_ret
    exact ⟨v1, rfl, HO.out, HB.out⟩
end Go.Proofs.Ytgdiaaoekkdibaa
