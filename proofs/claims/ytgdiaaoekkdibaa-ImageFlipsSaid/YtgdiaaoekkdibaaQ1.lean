/- Contracts of equal at strings, objects and relocations. -/
import Derived.Test.YtgdiaaoekkdibaaP1
import Derived.Test.YtgdiaaoekkdibaaFlow
import Derived.LoopTactic
import Derived.RegionTactic
import Derived.BigQuiet
import Derived.Deep.QuietTactic
namespace Go.Proofs.Ytgdiaaoekkdibaa
set_option linter.unusedVariables false
set_option linter.unusedSimpArgs false
open Go.RowKit
instance : DecidableEq ObjI := fun a b => if h : a.bank = b.bank ∧ a.addr = b.addr ∧ a.size = b.size then isTrue (by cases a; cases b; simp_all) else isFalse (fun e => h (by subst e; exact ⟨rfl, rfl, rfl⟩))
instance : DecidableEq RelI := fun a b => if h : a.bank = b.bank ∧ a.off = b.off then isTrue (by cases a; cases b; simp_all) else isFalse (fun e => h (by subst e; exact ⟨rfl, rfl⟩))
def sameL {α : Type} [DecidableEq α] (l m : List α) : Bool := decide (l = m)
theorem sameL_len {α : Type} [DecidableEq α] {l m : List α} (h : l.length ≠ m.length) : sameL l m = false := decide_eq_false fun e => h (by rw [e])
theorem sameL_hit {α : Type} [DecidableEq α] {l m : List α} (k : Nat) {x y : α} (h1 : l[k]? = some x) (h2 : m[k]? = some y) (h : x ≠ y) : sameL l m = false :=
  decide_eq_false fun e => h (by subst e; rw [h1] at h2; exact Option.some.inj h2)
theorem sameL_step {α : Type} [DecidableEq α] {l m : List α} (k : Nat) {x y : α} (h1 : l[k]? = some x) (h2 : m[k]? = some y) (h : x = y) : sameL (l.drop k) (m.drop k) = sameL (l.drop (k + 1)) (m.drop (k + 1)) := by
  subst h
  rw [drop_at l k x h1, drop_at m k x h2]
  unfold sameL
  simp
theorem sameL_end {α : Type} [DecidableEq α] {l m : List α} (h : l.length = m.length) : sameL (l.drop l.length) (m.drop l.length) = true := by
  unfold sameL; rw [List.drop_length, h, List.drop_length]; simp
set_option maxRecDepth 8000 in
set_option maxHeartbeats 1000000 in
theorem equalS_any (p : Option Addr) (c : Nat) (q : Option Addr) (d : Nat) (l m : List ByteArray) (w : World) (hl : l.length ≤ maxLen) (hm : m.length ≤ maxLen) (ho : StrsAt w p l) (hq : StrsAt w q m) :
    Calls Try.prog 68 #[.slice p l.length c, .slice q m.length d] w fun e w' => e = .returned (.bool (sameL l m)) ∧ Below w.heap.size w w' := by
  unfold maxLen at hl hm
  have HO := Lib.hid ho
  have HQ := Lib.hid hq
  clear ho hq
  by_cases hlen : l.length = m.length
  · have hlb : ((l.length : Int) == (m.length : Int)) = true := by simp [hlen]
    have hlb2 : ((l.length : Int) != (m.length : Int)) = false := by simp [hlen]
    have HN := Lib.hid hlen
    clear hlen
    go_enter Try.func68, Try.ntmps68
    go_wp2
    go_loop [14] (fun i => ∃ k : Nat, k ≤ l.length ∧ i = .int .i64 k ∧ sameL l m = sameL (l.drop k) (m.drop k)) (fun i => l.length - (intOf i).toNat)
    case atStart => exact ⟨0, Nat.zero_le _, rfl, rfl⟩
    case round =>
      obtain ⟨k, hk, rfl, hf⟩ := hrel
      have HF := Lib.hid hf
      clear hf
      by_cases hlt : k < l.length
      · have hlt2 : k < m.length := by have := HN.out; omega
        obtain ⟨x, hx⟩ := at_some l k hlt
        obtain ⟨y, hy⟩ := at_some m k hlt2
        obtain ⟨B, rfl, hB, e0, z0⟩ := HO.out k x hx
        obtain ⟨D, rfl, hD, e1, z1⟩ := HQ.out k y hy
        have HX := Lib.hid hx
        have HY := Lib.hid hy
        clear hx hy
        by_cases hxy : x = y
        · have h1 : (x.toList == y.toList) = true := by rw [hxy]; simp
          have HS := Lib.hid (sameL_step k HX.out HY.out hxy)
          clear hxy
          go_wp2
          go_round
          case rel => exact ⟨k + 1, by omega, by go_num, by rw [HF.out, HS.out]⟩
          case measure => simp [intOf]; omega
        · have h1 : (x.toList == y.toList) = false := by simp only [beq_eq_false_iff_ne, ne_eq]; exact fun e => hxy (by cases x; cases y; simp_all [ByteArray.toList_eq])
          have HS := Lib.hid (sameL_hit k HX.out HY.out hxy)
          clear hxy
          go_wp2
          go_ret
          exact ⟨by rw [HS.out]; rfl, Below.refl _ _⟩
      · obtain rfl : k = l.length := by omega
        go_wp2
        go_ret
        exact ⟨by rw [HF.out, sameL_end HN.out]; rfl, Below.refl _ _⟩
  · have HS := Lib.hid (sameL_len hlen)
    have hlb : ((l.length : Int) == (m.length : Int)) = false := by simp; omega
    have hlb2 : ((l.length : Int) != (m.length : Int)) = true := by simp; omega
    clear hlen
    go_enter Try.func68, Try.ntmps68
    go_wp2
    go_ret
    exact ⟨by rw [HS.out]; rfl, Below.refl _ _⟩
set_option maxRecDepth 8000 in
set_option maxHeartbeats 1000000 in
theorem equalO_any (p : Option Addr) (c : Nat) (q : Option Addr) (d : Nat) (l m : List ObjI) (w : World) (hl : l.length ≤ maxLen) (hm : m.length ≤ maxLen) (ho : ObjsAt w p l) (hq : ObjsAt w q m) :
    Calls Try.prog 69 #[.slice p l.length c, .slice q m.length d] w fun e w' => e = .returned (.bool (sameL l m)) ∧ Below w.heap.size w w' := by
  unfold maxLen at hl hm
  have HO := Lib.hid ho
  have HQ := Lib.hid hq
  clear ho hq
  by_cases hlen : l.length = m.length
  · have hlb : ((l.length : Int) == (m.length : Int)) = true := by simp [hlen]
    have hlb2 : ((l.length : Int) != (m.length : Int)) = false := by simp [hlen]
    have HN := Lib.hid hlen
    clear hlen
    go_enter Try.func69, Try.ntmps69
    go_wp2
    go_loopw [14] (fun i wr => ∃ k : Nat, k ≤ l.length ∧ i = .int .i64 k ∧ Below w.heap.size w wr ∧ sameL l m = sameL (l.drop k) (m.drop k)) (fun i _ => l.length - (intOf i).toNat)
    case atStart => exact ⟨0, Nat.zero_le _, rfl, Below.refl _ _, rfl⟩
    case round =>
      obtain ⟨k, hk, rfl, hBw, hf⟩ := hrel
      have HF := Lib.hid hf
      clear hf
      by_cases hlt : k < l.length
      · have hlt2 : k < m.length := by have := HN.out; omega
        obtain ⟨x, hx⟩ := at_some l k hlt
        obtain ⟨y, hy⟩ := at_some m k hlt2
        have hbl := below_alloc hBw (Obj.cells #[.int .i64 x.bank, .int .u16 x.addr, .int .u16 x.size] 39)
        obtain ⟨B, rfl, hB, e0, e1, e2, okx⟩ := HO.out.kept hBw k x hx
        obtain ⟨D, rfl, hD, d0, d1, d2, oky⟩ := HQ.out.kept hbl k y hy
        have KF : Hid (∀ V, Below (wr.alloc (Obj.cells #[Value.int IntKind.i64 x.bank, Value.int IntKind.u16 x.addr, Value.int IntKind.u16 x.size] 39)).heap.size (wr.alloc (Obj.cells #[Value.int IntKind.i64 x.bank, Value.int IntKind.u16 x.addr, Value.int IntKind.u16 x.size] 39)) V → (V.cell? ⟨wr.heap.size, 0, none⟩ = some (.int .i64 x.bank) ∧ V.cell? ⟨wr.heap.size, 1, none⟩ = some (.int .u16 x.addr) ∧ V.cell? ⟨wr.heap.size, 2, none⟩ = some (.int .u16 x.size)) ∧ (V.cell? ⟨D, k * 3, none⟩ = some (.int .i64 y.bank) ∧ V.cell? ⟨D, k * 3 + 1, none⟩ = some (.int .u16 y.addr) ∧ V.cell? ⟨D, k * 3 + 2, none⟩ = some (.int .u16 y.size))) := fun V hb => ⟨⟨(hb.cell (p := ⟨wr.heap.size, 0, none⟩) (by simp)).trans (by simp [go_sem]), (hb.cell (p := ⟨wr.heap.size, 1, none⟩) (by simp)).trans (by simp [go_sem]), (hb.cell (p := ⟨wr.heap.size, 2, none⟩) (by simp)).trans (by simp [go_sem])⟩, ⟨(hb.cell (p := ⟨D, k * 3, none⟩) hD).trans d0, (hb.cell (p := ⟨D, k * 3 + 1, none⟩) hD).trans d1, (hb.cell (p := ⟨D, k * 3 + 2, none⟩) hD).trans d2⟩⟩
        have HB := Lib.hid hbl
        clear d0 d1 d2
        have HX := Lib.hid hx
        have HY := Lib.hid hy
        clear hx hy okx oky hBw hbl
        by_cases hxy : x = y
        · have HS := Lib.hid (sameL_step k HX.out HY.out hxy)
          have hbank : (x.bank == y.bank) = true := by rw [hxy]; simp
          have haddr : (x.addr == y.addr) = true := by rw [hxy]; simp
          have hsize : (x.size == y.size) = true := by rw [hxy]; simp
          clear hxy
          go_wp2
          generalize wr.alloc (Obj.cells #[Value.int IntKind.i64 x.bank, Value.int IntKind.u16 x.addr, Value.int IntKind.u16 x.size] 39) = W1 at *
          refine wp_region_flow (S := fun V => Below W1.heap.size W1 V) (by kernel_rfl) (by kernel_rfl) (Below.drew (Below.refl _ _)) ?_
          refine Flow.step ?_ (fun V K hS hK => ?_) ?_
          rotate_left
          · obtain ⟨⟨n0, n1, n2⟩, _⟩ := KF.out V hS
            go_simp
            exact hK _ hS
          simp only [Act.put, List.setIfInBounds_toArray, List.set_cons_zero, List.set_cons_succ]
          refine Flow.step ?_ (fun V K hS hK => ?_) ?_
          rotate_left
          · go_simp
            exact hK _ hS
          simp only [Act.put, List.setIfInBounds_toArray, List.set_cons_zero, List.set_cons_succ]
          refine Flow.step ?_ (fun V K hS hK => ?_) ?_
          rotate_left
          · go_simp
            exact hK _ hS
          simp only [Act.put, List.setIfInBounds_toArray, List.set_cons_zero, List.set_cons_succ]
          refine Flow.step ?_ (fun V K hS hK => ?_) ?_
          rotate_left
          · go_simp
            exact hK _ hS
          simp only [Act.put, List.setIfInBounds_toArray, List.set_cons_zero, List.set_cons_succ]
          refine Flow.step ?_ (fun V K hS hK => ?_) ?_
          rotate_left
          · obtain ⟨_, ⟨d0, d1, d2⟩⟩ := KF.out V hS
            go_simp
            exact hK _ hS
          simp only [Act.put, List.setIfInBounds_toArray, List.set_cons_zero, List.set_cons_succ]
          refine Flow.step ?_ (fun V K hS hK => ?_) ?_
          rotate_left
          · go_simp
            exact hK _ hS
          simp only [Act.put, List.setIfInBounds_toArray, List.set_cons_zero, List.set_cons_succ]
          refine Flow.done fun V hS => ?_
          have HV := Lib.hid (below_next HB.out hS)
          clear HB KF hS
          go_wp2
          go_roundw
          case rel => exact ⟨k + 1, by omega, by go_num, HV.out, by rw [HF.out, HS.out]⟩
          case measure => simp [intOf]; omega
        · have HS := Lib.hid (sameL_hit k HX.out HY.out hxy)
          have hne : ((x.bank == y.bank) = false) ∨ ((x.bank == y.bank) = true ∧ (x.addr == y.addr) = false) ∨ ((x.bank == y.bank) = true ∧ (x.addr == y.addr) = true ∧ (x.size == y.size) = false) := by
            cases x; cases y; simp at hxy ⊢; omega
          clear hxy
          rcases hne with h0 | ⟨h0, h1⟩ | ⟨h0, h1, h2⟩
          all_goals
            go_wp2
            generalize wr.alloc (Obj.cells #[Value.int IntKind.i64 x.bank, Value.int IntKind.u16 x.addr, Value.int IntKind.u16 x.size] 39) = W1 at *
            refine wp_region_flow (S := fun V => Below W1.heap.size W1 V) (by kernel_rfl) (by kernel_rfl) (Below.drew (Below.refl _ _)) ?_
            refine Flow.step ?_ (fun V K hS hK => ?_) ?_
            rotate_left
            · obtain ⟨⟨n0, n1, n2⟩, _⟩ := KF.out V hS
              go_simp
              exact hK _ hS
            simp only [Act.put, List.setIfInBounds_toArray, List.set_cons_zero, List.set_cons_succ]
            refine Flow.step ?_ (fun V K hS hK => ?_) ?_
            rotate_left
            · go_simp
              exact hK _ hS
            simp only [Act.put, List.setIfInBounds_toArray, List.set_cons_zero, List.set_cons_succ]
            refine Flow.step ?_ (fun V K hS hK => ?_) ?_
            rotate_left
            · go_simp
              exact hK _ hS
            simp only [Act.put, List.setIfInBounds_toArray, List.set_cons_zero, List.set_cons_succ]
            refine Flow.step ?_ (fun V K hS hK => ?_) ?_
            rotate_left
            · go_simp
              exact hK _ hS
            simp only [Act.put, List.setIfInBounds_toArray, List.set_cons_zero, List.set_cons_succ]
            refine Flow.step ?_ (fun V K hS hK => ?_) ?_
            rotate_left
            · obtain ⟨_, ⟨d0, d1, d2⟩⟩ := KF.out V hS
              go_simp
              exact hK _ hS
            simp only [Act.put, List.setIfInBounds_toArray, List.set_cons_zero, List.set_cons_succ]
            refine Flow.step ?_ (fun V K hS hK => ?_) ?_
            rotate_left
            · go_simp
              exact hK _ hS
            simp only [Act.put, List.setIfInBounds_toArray, List.set_cons_zero, List.set_cons_succ]
            refine Flow.done fun V hS => ?_
            have HV := Lib.hid (below_next HB.out hS)
            clear HB KF hS
            go_wp2
            go_ret
            exact ⟨by rw [HS.out]; rfl, HV.out⟩
      · obtain rfl : k = l.length := by omega
        go_wp2
        go_ret
        exact ⟨by rw [HF.out, sameL_end HN.out]; rfl, hBw⟩
  · have HS := Lib.hid (sameL_len hlen)
    have hlb : ((l.length : Int) == (m.length : Int)) = false := by simp; omega
    have hlb2 : ((l.length : Int) != (m.length : Int)) = true := by simp; omega
    clear hlen
    go_enter Try.func69, Try.ntmps69
    go_wp2
    go_ret
    exact ⟨by rw [HS.out]; rfl, Below.refl _ _⟩
set_option maxRecDepth 8000 in
set_option maxHeartbeats 1000000 in
theorem equalR_any (p : Option Addr) (c : Nat) (q : Option Addr) (d : Nat) (l m : List RelI) (w : World) (hl : l.length ≤ maxLen) (hm : m.length ≤ maxLen) (ho : RelsAt w p l) (hq : RelsAt w q m) :
    Calls Try.prog 70 #[.slice p l.length c, .slice q m.length d] w fun e w' => e = .returned (.bool (sameL l m)) ∧ Below w.heap.size w w' := by
  unfold maxLen at hl hm
  have HO := Lib.hid ho
  have HQ := Lib.hid hq
  clear ho hq
  by_cases hlen : l.length = m.length
  · have hlb : ((l.length : Int) == (m.length : Int)) = true := by simp [hlen]
    have hlb2 : ((l.length : Int) != (m.length : Int)) = false := by simp [hlen]
    have HN := Lib.hid hlen
    clear hlen
    go_enter Try.func70, Try.ntmps70
    go_wp2
    go_loopw [14] (fun i wr => ∃ k : Nat, k ≤ l.length ∧ i = .int .i64 k ∧ Below w.heap.size w wr ∧ sameL l m = sameL (l.drop k) (m.drop k)) (fun i _ => l.length - (intOf i).toNat)
    case atStart => exact ⟨0, Nat.zero_le _, rfl, Below.refl _ _, rfl⟩
    case round =>
      obtain ⟨k, hk, rfl, hBw, hf⟩ := hrel
      have HF := Lib.hid hf
      clear hf
      by_cases hlt : k < l.length
      · have hlt2 : k < m.length := by have := HN.out; omega
        obtain ⟨x, hx⟩ := at_some l k hlt
        obtain ⟨y, hy⟩ := at_some m k hlt2
        have hbl := below_alloc hBw (Obj.cells #[.int .i64 x.bank, .int .u16 x.off] 41)
        obtain ⟨B, rfl, hB, e0, e1, okx⟩ := HO.out.kept hBw k x hx
        obtain ⟨D, rfl, hD, d0, d1, oky⟩ := HQ.out.kept hbl k y hy
        have KF : Hid (∀ V, Below (wr.alloc (Obj.cells #[Value.int IntKind.i64 x.bank, Value.int IntKind.u16 x.off] 41)).heap.size (wr.alloc (Obj.cells #[Value.int IntKind.i64 x.bank, Value.int IntKind.u16 x.off] 41)) V → (V.cell? ⟨wr.heap.size, 0, none⟩ = some (.int .i64 x.bank) ∧ V.cell? ⟨wr.heap.size, 1, none⟩ = some (.int .u16 x.off)) ∧ (V.cell? ⟨D, k * 2, none⟩ = some (.int .i64 y.bank) ∧ V.cell? ⟨D, k * 2 + 1, none⟩ = some (.int .u16 y.off))) := fun V hb => ⟨⟨(hb.cell (p := ⟨wr.heap.size, 0, none⟩) (by simp)).trans (by simp [go_sem]), (hb.cell (p := ⟨wr.heap.size, 1, none⟩) (by simp)).trans (by simp [go_sem])⟩, ⟨(hb.cell (p := ⟨D, k * 2, none⟩) hD).trans d0, (hb.cell (p := ⟨D, k * 2 + 1, none⟩) hD).trans d1⟩⟩
        have HB := Lib.hid hbl
        clear d0 d1
        have HX := Lib.hid hx
        have HY := Lib.hid hy
        clear hx hy okx oky hBw hbl
        by_cases hxy : x = y
        · have HS := Lib.hid (sameL_step k HX.out HY.out hxy)
          have hbank : (x.bank == y.bank) = true := by rw [hxy]; simp
          have hoff : (x.off == y.off) = true := by rw [hxy]; simp
          clear hxy
          go_wp2
          generalize wr.alloc (Obj.cells #[Value.int IntKind.i64 x.bank, Value.int IntKind.u16 x.off] 41) = W1 at *
          refine wp_region_flow (S := fun V => Below W1.heap.size W1 V) (by kernel_rfl) (by kernel_rfl) (Below.drew (Below.refl _ _)) ?_
          refine Flow.step ?_ (fun V K hS hK => ?_) ?_
          rotate_left
          · obtain ⟨⟨n0, n1⟩, _⟩ := KF.out V hS
            go_simp
            exact hK _ hS
          simp only [Act.put, List.setIfInBounds_toArray, List.set_cons_zero, List.set_cons_succ]
          refine Flow.step ?_ (fun V K hS hK => ?_) ?_
          rotate_left
          · go_simp
            exact hK _ hS
          simp only [Act.put, List.setIfInBounds_toArray, List.set_cons_zero, List.set_cons_succ]
          refine Flow.step ?_ (fun V K hS hK => ?_) ?_
          rotate_left
          · go_simp
            exact hK _ hS
          simp only [Act.put, List.setIfInBounds_toArray, List.set_cons_zero, List.set_cons_succ]
          refine Flow.step ?_ (fun V K hS hK => ?_) ?_
          rotate_left
          · go_simp
            exact hK _ hS
          simp only [Act.put, List.setIfInBounds_toArray, List.set_cons_zero, List.set_cons_succ]
          refine Flow.step ?_ (fun V K hS hK => ?_) ?_
          rotate_left
          · obtain ⟨_, ⟨d0, d1⟩⟩ := KF.out V hS
            go_simp
            exact hK _ hS
          simp only [Act.put, List.setIfInBounds_toArray, List.set_cons_zero, List.set_cons_succ]
          refine Flow.step ?_ (fun V K hS hK => ?_) ?_
          rotate_left
          · go_simp
            exact hK _ hS
          simp only [Act.put, List.setIfInBounds_toArray, List.set_cons_zero, List.set_cons_succ]
          refine Flow.done fun V hS => ?_
          have HV := Lib.hid (below_next HB.out hS)
          clear HB KF hS
          go_wp2
          go_roundw
          case rel => exact ⟨k + 1, by omega, by go_num, HV.out, by rw [HF.out, HS.out]⟩
          case measure => simp [intOf]; omega
        · have HS := Lib.hid (sameL_hit k HX.out HY.out hxy)
          have hne : ((x.bank == y.bank) = false) ∨ ((x.bank == y.bank) = true ∧ (x.off == y.off) = false) := by
            cases x; cases y; simp at hxy ⊢; omega
          clear hxy
          rcases hne with h0 | ⟨h0, h1⟩
          all_goals
            go_wp2
            generalize wr.alloc (Obj.cells #[Value.int IntKind.i64 x.bank, Value.int IntKind.u16 x.off] 41) = W1 at *
            refine wp_region_flow (S := fun V => Below W1.heap.size W1 V) (by kernel_rfl) (by kernel_rfl) (Below.drew (Below.refl _ _)) ?_
            refine Flow.step ?_ (fun V K hS hK => ?_) ?_
            rotate_left
            · obtain ⟨⟨n0, n1⟩, _⟩ := KF.out V hS
              go_simp
              exact hK _ hS
            simp only [Act.put, List.setIfInBounds_toArray, List.set_cons_zero, List.set_cons_succ]
            refine Flow.step ?_ (fun V K hS hK => ?_) ?_
            rotate_left
            · go_simp
              exact hK _ hS
            simp only [Act.put, List.setIfInBounds_toArray, List.set_cons_zero, List.set_cons_succ]
            refine Flow.step ?_ (fun V K hS hK => ?_) ?_
            rotate_left
            · go_simp
              exact hK _ hS
            simp only [Act.put, List.setIfInBounds_toArray, List.set_cons_zero, List.set_cons_succ]
            refine Flow.step ?_ (fun V K hS hK => ?_) ?_
            rotate_left
            · go_simp
              exact hK _ hS
            simp only [Act.put, List.setIfInBounds_toArray, List.set_cons_zero, List.set_cons_succ]
            refine Flow.step ?_ (fun V K hS hK => ?_) ?_
            rotate_left
            · obtain ⟨_, ⟨d0, d1⟩⟩ := KF.out V hS
              go_simp
              exact hK _ hS
            simp only [Act.put, List.setIfInBounds_toArray, List.set_cons_zero, List.set_cons_succ]
            refine Flow.step ?_ (fun V K hS hK => ?_) ?_
            rotate_left
            · go_simp
              exact hK _ hS
            simp only [Act.put, List.setIfInBounds_toArray, List.set_cons_zero, List.set_cons_succ]
            refine Flow.done fun V hS => ?_
            have HV := Lib.hid (below_next HB.out hS)
            clear HB KF hS
            go_wp2
            go_ret
            exact ⟨by rw [HS.out]; rfl, HV.out⟩
      · obtain rfl : k = l.length := by omega
        go_wp2
        go_ret
        exact ⟨by rw [HF.out, sameL_end HN.out]; rfl, hBw⟩
  · have HS := Lib.hid (sameL_len hlen)
    have hlb : ((l.length : Int) == (m.length : Int)) = false := by simp; omega
    have hlb2 : ((l.length : Int) != (m.length : Int)) = true := by simp; omega
    clear hlen
    go_enter Try.func70, Try.ntmps70
    go_wp2
    go_ret
    exact ⟨by rw [HS.out]; rfl, Below.refl _ _⟩
end Go.Proofs.Ytgdiaaoekkdibaa
