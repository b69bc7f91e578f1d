/- The contract of the reference's File. -/
import Derived.Test.YtgdiaaoekkdibaaJ0
import Derived.Test.YtgdiaaoekkdibaaI3
import Derived.Test.YtgdiaaoekkdibaaW1
namespace Go.Proofs.Ytgdiaaoekkdibaa
set_option linter.unusedVariables false
set_option linter.unusedSimpArgs false
open Go.RowKit
def wordsI (I : Img) : List Int := [(I.banks.length : Int) % 65536, I.entry, I.vector, (I.data.length : Int) % 65536, (I.relocs.length : Int) % 65536]
def headS (I : Img) : ByteArray := (((((⟨#[86, 69, 76, 77]⟩ : ByteArray) ++ putS ((I.banks.length : Int) % 65536)) ++ putS I.entry) ++ putS I.vector) ++ putS ((I.data.length : Int) % 65536)) ++ putS ((I.relocs.length : Int) % 65536)
theorem headS_list (I : Img) (h1 : OkU16 I.entry) (h2 : OkU16 I.vector) : (headS I).data.toList = headL I := by
  obtain ⟨e0, e1⟩ := h1
  obtain ⟨v0, v1⟩ := h2
  unfold headS headL
  simp only [ByteArray.data_append, Array.toList_append]
  rw [putS_list _ (by omega) (by omega), putS_list _ e0 e1, putS_list _ v0 v1, putS_list _ (by omega) (by omega), putS_list _ (by omega) (by omega)]
  rfl
theorem keepB {A B C D E F : Prop} (h : A ∧ B ∧ C ∧ D ∧ E ∧ F) : F := h.2.2.2.2.2
theorem app_eq (l m : List UInt8) (t : ByteArray) (h : t.data.toList = m) : (⟨l.toArray⟩ ++ t : ByteArray) = bytesOf (l ++ m) := by
  subst h
  apply ByteArray.ext
  simp [ByteArray.data_append, bytesOf]
theorem owned_at {w : World} {B n : Nat} {v : Value} {xs : List Value} (h : OwnsM w B 5 1 v n xs) (h0 : n ≠ 0) : ∃ g cap, v = .slice (some ⟨g, 0, none⟩) n cap := by
  rcases h.2 with ⟨_, hn⟩ | ⟨g, cap, cur, fz, hv, _⟩
  · exact absurd hn h0
  · exact ⟨g, cap, hv⟩
theorem objB_cells (o : ObjI) : Lib.byteCells (objB o) = [.int .u8 (o.bank % 256), .int .u8 (o.addr % 256), .int .u8 (o.addr / 256 % 256), .int .u8 (o.size % 256), .int .u8 (o.size / 256 % 256)] := by
  simp [Lib.byteCells, objB, putL, byteOf_cell]
theorem relB_cells (o : RelI) : Lib.byteCells (relB o) = [.int .u8 (o.bank % 256), .int .u8 (o.off % 256), .int .u8 (o.off / 256 % 256)] := by
  simp [Lib.byteCells, relB, putL, byteOf_cell]
theorem flat_take_le {α : Type} (f : α → List UInt8) (l : List α) (k : Nat) : ((l.take k).flatMap f).length ≤ (l.flatMap f).length := by
  conv => rhs; rw [← List.take_append_drop k l, List.flatMap_append, List.length_append]
  omega
theorem prefix1 (I : Img) (k : Nat) : (headL I ++ (I.data.take k).flatMap objB).length ≤ (bodyL I).length := by
  have := flat_take_le objB I.data k
  unfold bodyL; simp only [List.length_append]; omega
theorem prefix2 (I : Img) (k : Nat) : (headL I ++ I.data.flatMap objB ++ (I.relocs.take k).flatMap relB).length ≤ (bodyL I).length := by
  have := flat_take_le relB I.relocs k
  unfold bodyL; simp only [List.length_append]; omega
theorem prefix3 (I : Img) (k : Nat) : (headL I ++ I.data.flatMap objB ++ I.relocs.flatMap relB ++ (I.banks.take k).flatMap strB).length ≤ (bodyL I).length := by
  have := flat_take_le strB I.banks k
  unfold bodyL; simp only [List.length_append]; omega
theorem below_allocs {B : Nat} {a w : World} (h : Below B a w) (o p : Obj) (hs : B ≤ w.heap.size := by first | exact h.size | omega) : Below B a ((w.alloc o).alloc p) :=
  (h.alloc hs o).alloc (by simp; omega) p
set_option maxRecDepth 4000 in
set_option maxHeartbeats 8000000 in
theorem rfile_any (p1 : Option Addr) (c1 : Nat) (p2 : Option Addr) (c2 : Nat) (p3 : Option Addr) (c3 : Nat) (I : Img) (w : World) (hI : ImgAt w p1 p2 p3 I) (hlen : (bodyL I).length ≤ 1099511627776) :
    Calls Try.prog 23 #[imgV p1 c1 p2 c2 p3 c3 I] w fun e w' => e = .returned (.string (fileI I)) ∧ Below w.heap.size w w' := by
  have HI := Lib.hid (hI.kept (below1 w (Obj.cells #[.slice p1 I.banks.length c1, .int .u16 I.entry, .int .u16 I.vector, .slice p2 I.data.length c2, .slice p3 I.relocs.length c3] 30)))
  obtain ⟨⟨en0, en1⟩, ⟨ve0, ve1⟩⟩ := And.intro hI.entry hI.vector
  have l1 := hI.l1
  have l2 := hI.l2
  have l3 := hI.l3
  unfold maxLen at l1 l2 l3
  have HR : Hid (fileI I = bytesOf (bodyL I ++ putL [sumI (bytesOf (bodyL I)) (bodyL I).length])) := rfl
  have HLen := Lib.hid hlen
  have hHS := headS_list I hI.entry hI.vector
  have hHz : (headS I).size = 14 := rfl
  have hB1 := below1 w (Obj.cells #[.slice p1 I.banks.length c1, .int .u16 I.entry, .int .u16 I.vector, .slice p2 I.data.length c2, .slice p3 I.relocs.length c3] 30)
  have HB1 := Lib.hid hB1
  have HHS := Lib.hid hHS
  clear hI hlen hB1 hHS
  have k0 : IntKind.u16.wrap (I.banks.length : Int) = (I.banks.length : Int) % 65536 := IntKind.wrap_u16 _
  have k1 : IntKind.u16.wrap (I.data.length : Int) = (I.data.length : Int) % 65536 := IntKind.wrap_u16 _
  have k2 : IntKind.u16.wrap (I.relocs.length : Int) = (I.relocs.length : Int) % 65536 := IntKind.wrap_u16 _
  have y0 : (w.alloc (Obj.cells #[.slice p1 I.banks.length c1, .int .u16 I.entry, .int .u16 I.vector, .slice p2 I.data.length c2, .slice p3 I.relocs.length c3] 30)).cell? ⟨w.heap.size, 0, none⟩ = some (.slice p1 I.banks.length c1) := by simp
  have y1 : (w.alloc (Obj.cells #[.slice p1 I.banks.length c1, .int .u16 I.entry, .int .u16 I.vector, .slice p2 I.data.length c2, .slice p3 I.relocs.length c3] 30)).cell? ⟨w.heap.size, 1, none⟩ = some (.int .u16 I.entry) := by simp
  have y2 : (w.alloc (Obj.cells #[.slice p1 I.banks.length c1, .int .u16 I.entry, .int .u16 I.vector, .slice p2 I.data.length c2, .slice p3 I.relocs.length c3] 30)).cell? ⟨w.heap.size, 2, none⟩ = some (.int .u16 I.vector) := by simp
  have y3 : (w.alloc (Obj.cells #[.slice p1 I.banks.length c1, .int .u16 I.entry, .int .u16 I.vector, .slice p2 I.data.length c2, .slice p3 I.relocs.length c3] 30)).cell? ⟨w.heap.size, 3, none⟩ = some (.slice p2 I.data.length c2) := by simp
  have y4 : (w.alloc (Obj.cells #[.slice p1 I.banks.length c1, .int .u16 I.entry, .int .u16 I.vector, .slice p2 I.data.length c2, .slice p3 I.relocs.length c3] 30)).cell? ⟨w.heap.size, 4, none⟩ = some (.slice p3 I.relocs.length c3) := by simp
  have hBx : w.heap.size < (w.alloc (Obj.cells #[.slice p1 I.banks.length c1, .int .u16 I.entry, .int .u16 I.vector, .slice p2 I.data.length c2, .slice p3 I.relocs.length c3] 30)).heap.size := by simp
  show Calls Try.prog 23 #[.agg #[.slice p1 I.banks.length c1, .int .u16 I.entry, .int .u16 I.vector, .slice p2 I.data.length c2, .slice p3 I.relocs.length c3]] w _
  go_enter Try.func23, Try.ntmps23
  go_wp2_with fail
  generalize w.alloc (Obj.cells #[Value.slice p1 I.banks.length c1, Value.int IntKind.u16 I.entry, Value.int IntKind.u16 I.vector, Value.slice p2 I.data.length c2, Value.slice p3 I.relocs.length c3] 30) = W1 at *
  have HA : Hid (∀ w' : World, Below W1.heap.size W1 w' → w'.cell? ⟨w.heap.size, 0, none⟩ = some (.slice p1 I.banks.length c1) ∧ w'.cell? ⟨w.heap.size, 1, none⟩ = some (.int .u16 I.entry) ∧ w'.cell? ⟨w.heap.size, 2, none⟩ = some (.int .u16 I.vector) ∧ w'.cell? ⟨w.heap.size, 3, none⟩ = some (.slice p2 I.data.length c2) ∧ w'.cell? ⟨w.heap.size, 4, none⟩ = some (.slice p3 I.relocs.length c3) ∧ Below W1.heap.size W1 w') :=
    fun w' hb => ⟨(hb.cell hBx).trans y0, (hb.cell hBx).trans y1, (hb.cell hBx).trans y2, (hb.cell hBx).trans y3, (hb.cell hBx).trans y4, hb⟩
  have hcv := conv_run
  have hz2 : ∀ n, (putS n).size = 2 := fun _ => rfl
  have hz4 : (⟨#[86, 69, 76, 77]⟩ : ByteArray).size = 4 := rfl
  have hza : ∀ a b : ByteArray, (a ++ b).size = a.size + b.size := fun a b => ByteArray.size_append
  refine wp_region_noPanic ?_
  refine wp_region_held_drew (S := (fun w' => w'.cell? ⟨w.heap.size, 0, none⟩ = some (.slice p1 I.banks.length c1) ∧ w'.cell? ⟨w.heap.size, 1, none⟩ = some (.int .u16 I.entry) ∧ w'.cell? ⟨w.heap.size, 2, none⟩ = some (.int .u16 I.vector) ∧ w'.cell? ⟨w.heap.size, 3, none⟩ = some (.slice p2 I.data.length c2) ∧ w'.cell? ⟨w.heap.size, 4, none⟩ = some (.slice p3 I.relocs.length c3) ∧ Below W1.heap.size W1 w')) (by kernel_rfl) (HA.out _ (Below.drew (Below.refl _ _))) (fun hHeld => ?_)
  refine wpAnyH_take (i := 0) (v := ?v0) (by simp only [List.getElem?_toArray, List.getElem?_cons_succ, List.getElem?_cons_zero]; rfl) (by kernel_rfl) (by kernel_rfl) (by kernel_rfl) (fun _ _ _ h => h) (Or.inl ⟨by rfl, ?hy0⟩) (by assumption) ?rest0
  case hy0 =>
    intro w hSw
    try dsimp only at hSw
    go_simp
    all_goals with_reducible rfl
  try simp only [Act.put, List.setIfInBounds_toArray, List.set_cons_zero, List.set_cons_succ]
  refine wpAnyH_take (i := 1) (v := ?v1) (by simp only [List.getElem?_toArray, List.getElem?_cons_succ, List.getElem?_cons_zero]; rfl) (by kernel_rfl) (by kernel_rfl) (by kernel_rfl) (fun _ _ _ h => h) (Or.inl ⟨by rfl, ?hy1⟩) (by assumption) ?rest1
  case hy1 =>
    intro w hSw
    try dsimp only at hSw
    go_simp
    all_goals with_reducible rfl
  try simp only [Act.put, List.setIfInBounds_toArray, List.set_cons_zero, List.set_cons_succ]
  refine wpAnyH_take (i := 2) (v := ?v2) (by simp only [List.getElem?_toArray, List.getElem?_cons_succ, List.getElem?_cons_zero]; rfl) (by kernel_rfl) (by kernel_rfl) (by kernel_rfl) (fun _ _ _ h => h) (Or.inl ⟨by rfl, ?hy2⟩) (by assumption) ?rest2
  case hy2 =>
    intro w hSw
    try dsimp only at hSw
    go_simp
    all_goals with_reducible rfl
  try simp only [Act.put, List.setIfInBounds_toArray, List.set_cons_zero, List.set_cons_succ]
  refine wpAnyH_take (i := 3) (v := ?v3) (by simp only [List.getElem?_toArray, List.getElem?_cons_succ, List.getElem?_cons_zero]; rfl) (by kernel_rfl) (by kernel_rfl) (by kernel_rfl) (fun _ _ _ h => h) (Or.inl ⟨by rfl, ?hy3⟩) (by assumption) ?rest3
  case hy3 =>
    intro w hSw
    try dsimp only at hSw
    go_simp
    all_goals with_reducible rfl
  try simp only [Act.put, List.setIfInBounds_toArray, List.set_cons_zero, List.set_cons_succ]
  refine wpAnyH_take (i := 6) (v := ?v6) (by simp only [List.getElem?_toArray, List.getElem?_cons_succ, List.getElem?_cons_zero]; rfl) (by kernel_rfl) (by kernel_rfl) (by kernel_rfl) (fun _ _ _ h => h) (Or.inl ⟨by rfl, ?hy6⟩) (by assumption) ?rest6
  case hy6 =>
    intro w hSw
    try dsimp only at hSw
    go_simp
    all_goals with_reducible rfl
  try simp only [Act.put, List.setIfInBounds_toArray, List.set_cons_zero, List.set_cons_succ]
  refine wpAnyH_take (i := 7) (v := ?v7) (by simp only [List.getElem?_toArray, List.getElem?_cons_succ, List.getElem?_cons_zero]; rfl) (by kernel_rfl) (by kernel_rfl) (by kernel_rfl) (fun _ _ _ h => h) (Or.inl ⟨by rfl, ?hy7⟩) (by assumption) ?rest7
  case hy7 =>
    intro w hSw
    try dsimp only at hSw
    go_simp
    all_goals with_reducible rfl
  try simp only [Act.put, List.setIfInBounds_toArray, List.set_cons_zero, List.set_cons_succ]
  refine wpAnyH_take (i := 10) (v := ?v10) (by simp only [List.getElem?_toArray, List.getElem?_cons_succ, List.getElem?_cons_zero]; rfl) (by kernel_rfl) (by kernel_rfl) (by kernel_rfl) (fun _ _ _ h => h) (Or.inl ⟨by rfl, ?hy10⟩) (by assumption) ?rest10
  case hy10 =>
    intro w hSw
    try dsimp only at hSw
    go_simp
    all_goals with_reducible rfl
  try simp only [Act.put, List.setIfInBounds_toArray, List.set_cons_zero, List.set_cons_succ]
  refine wpAnyH_take (i := 11) (v := ?v11) (by simp only [List.getElem?_toArray, List.getElem?_cons_succ, List.getElem?_cons_zero]; rfl) (by kernel_rfl) (by kernel_rfl) (by kernel_rfl) (fun _ _ _ h => h) (Or.inl ⟨by rfl, ?hy11⟩) (by assumption) ?rest11
  case hy11 =>
    intro w hSw
    try dsimp only at hSw
    go_simp
    all_goals with_reducible rfl
  try simp only [Act.put, List.setIfInBounds_toArray, List.set_cons_zero, List.set_cons_succ]
  refine wpAnyH_take (i := 14) (v := ?v14) (by simp only [List.getElem?_toArray, List.getElem?_cons_succ, List.getElem?_cons_zero]; rfl) (by kernel_rfl) (by kernel_rfl) (by kernel_rfl) (fun _ _ _ h => h) (Or.inl ⟨by rfl, ?hy14⟩) (by assumption) ?rest14
  case hy14 =>
    intro w hSw
    try dsimp only at hSw
    go_simp
    all_goals with_reducible rfl
  try simp only [Act.put, List.setIfInBounds_toArray, List.set_cons_zero, List.set_cons_succ]
  refine wpAnyH_take (i := 15) (v := ?v15) (by simp only [List.getElem?_toArray, List.getElem?_cons_succ, List.getElem?_cons_zero]; rfl) (by kernel_rfl) (by kernel_rfl) (by kernel_rfl) (fun _ _ _ h => h) (Or.inl ⟨by rfl, ?hy15⟩) (by assumption) ?rest15
  case hy15 =>
    intro w hSw
    try dsimp only at hSw
    go_simp
    all_goals with_reducible rfl
  try simp only [Act.put, List.setIfInBounds_toArray, List.set_cons_zero, List.set_cons_succ]
  refine wpAnyH_take (i := 16) (v := ?v16) (by simp only [List.getElem?_toArray, List.getElem?_cons_succ, List.getElem?_cons_zero]; rfl) (by kernel_rfl) (by kernel_rfl) (by kernel_rfl) (fun _ _ _ h => h) (Or.inl ⟨by rfl, ?hy16⟩) (by assumption) ?rest16
  case hy16 =>
    intro w hSw
    try dsimp only at hSw
    go_simp
    all_goals with_reducible rfl
  try simp only [Act.put, List.setIfInBounds_toArray, List.set_cons_zero, List.set_cons_succ]
  refine wpAnyH_take (i := 17) (v := ?v17) (by simp only [List.getElem?_toArray, List.getElem?_cons_succ, List.getElem?_cons_zero]; rfl) (by kernel_rfl) (by kernel_rfl) (by kernel_rfl) (fun _ _ _ h => h) (Or.inl ⟨by rfl, ?hy17⟩) (by assumption) ?rest17
  case hy17 =>
    intro w hSw
    try dsimp only at hSw
    go_simp
    all_goals with_reducible rfl
  try simp only [Act.put, List.setIfInBounds_toArray, List.set_cons_zero, List.set_cons_succ]
  refine wpAnyH_take (i := 20) (v := ?v20) (by simp only [List.getElem?_toArray, List.getElem?_cons_succ, List.getElem?_cons_zero]; rfl) (by kernel_rfl) (by kernel_rfl) (by kernel_rfl) (fun _ _ _ h => h) (Or.inl ⟨by rfl, ?hy20⟩) (by assumption) ?rest20
  case hy20 =>
    intro w hSw
    try dsimp only at hSw
    go_simp
    all_goals with_reducible rfl
  try simp only [Act.put, List.setIfInBounds_toArray, List.set_cons_zero, List.set_cons_succ]
  refine wpAnyH_take (i := 21) (v := ?v21) (by simp only [List.getElem?_toArray, List.getElem?_cons_succ, List.getElem?_cons_zero]; rfl) (by kernel_rfl) (by kernel_rfl) (by kernel_rfl) (fun _ _ _ h => h) (Or.inl ⟨by rfl, ?hy21⟩) (by assumption) ?rest21
  case hy21 =>
    intro w hSw
    try dsimp only at hSw
    go_simp
    all_goals with_reducible rfl
  try simp only [Act.put, List.setIfInBounds_toArray, List.set_cons_zero, List.set_cons_succ]
  refine wpAnyH_take (i := 22) (v := ?v22) (by simp only [List.getElem?_toArray, List.getElem?_cons_succ, List.getElem?_cons_zero]; rfl) (by kernel_rfl) (by kernel_rfl) (by kernel_rfl) (fun _ _ _ h => h) (Or.inl ⟨by rfl, ?hy22⟩) (by assumption) ?rest22
  case hy22 =>
    intro w hSw
    try dsimp only at hSw
    go_simp
    all_goals with_reducible rfl
  try simp only [Act.put, List.setIfInBounds_toArray, List.set_cons_zero, List.set_cons_succ]
  refine wpAnyH_take (i := 23) (v := ?v23) (by simp only [List.getElem?_toArray, List.getElem?_cons_succ, List.getElem?_cons_zero]; rfl) (by kernel_rfl) (by kernel_rfl) (by kernel_rfl) (fun _ _ _ h => h) (Or.inl ⟨by rfl, ?hy23⟩) (by assumption) ?rest23
  case hy23 =>
    intro w hSw
    try dsimp only at hSw
    go_simp
    all_goals with_reducible rfl
  try simp only [Act.put, List.setIfInBounds_toArray, List.set_cons_zero, List.set_cons_succ]
  refine wpAnyH_ready (rs := [4]) (by kernel_rfl) (by simp) ?_
  refine AllReadyH.cons (by simp only [List.getElem?_toArray, List.getElem?_cons_succ, List.getElem?_cons_zero]; rfl) (fun K hK => ?_) AllReadyH.nil
  go_simp
  go_at_call 56
  refine (rput_any _ _ (by omega) (by omega)).mono ?_
  rintro e w5 ⟨rfl, h5⟩
  refine hK.out _ _ (HA.out _ (below_next (keepB (by assumption)) h5)) (fun hHeld => ?_)
  clear hK K
  try simp only [Act.put, List.setIfInBounds_toArray, List.set_cons_zero, List.set_cons_succ]
  refine wpAnyH_take (i := 5) (v := ?v5) (by simp only [List.getElem?_toArray, List.getElem?_cons_succ, List.getElem?_cons_zero]; rfl) (by kernel_rfl) (by kernel_rfl) (by kernel_rfl) (fun _ _ _ h => h) (Or.inl ⟨by rfl, ?hy5⟩) (by assumption) ?rest5
  case hy5 =>
    intro w hSw
    try dsimp only at hSw
    go_simp
    all_goals with_reducible rfl
  try simp only [Act.put, List.setIfInBounds_toArray, List.set_cons_zero, List.set_cons_succ]
  refine wpAnyH_ready (rs := [8]) (by kernel_rfl) (by simp) ?_
  refine AllReadyH.cons (by simp only [List.getElem?_toArray, List.getElem?_cons_succ, List.getElem?_cons_zero]; rfl) (fun K hK => ?_) AllReadyH.nil
  go_simp
  go_at_call 56
  refine (rput_any _ _ (by omega) (by omega)).mono ?_
  rintro e w5 ⟨rfl, h5⟩
  refine hK.out _ _ (HA.out _ (below_next (keepB (by assumption)) h5)) (fun hHeld => ?_)
  clear hK K
  try simp only [Act.put, List.setIfInBounds_toArray, List.set_cons_zero, List.set_cons_succ]
  refine wpAnyH_take (i := 9) (v := ?v9) (by simp only [List.getElem?_toArray, List.getElem?_cons_succ, List.getElem?_cons_zero]; rfl) (by kernel_rfl) (by kernel_rfl) (by kernel_rfl) (fun _ _ _ h => h) (Or.inl ⟨by rfl, ?hy9⟩) (by assumption) ?rest9
  case hy9 =>
    intro w hSw
    try dsimp only at hSw
    go_simp
    all_goals with_reducible rfl
  try simp only [Act.put, List.setIfInBounds_toArray, List.set_cons_zero, List.set_cons_succ]
  refine wpAnyH_ready (rs := [12]) (by kernel_rfl) (by simp) ?_
  refine AllReadyH.cons (by simp only [List.getElem?_toArray, List.getElem?_cons_succ, List.getElem?_cons_zero]; rfl) (fun K hK => ?_) AllReadyH.nil
  go_simp
  go_at_call 56
  refine (rput_any _ _ (by omega) (by omega)).mono ?_
  rintro e w5 ⟨rfl, h5⟩
  refine hK.out _ _ (HA.out _ (below_next (keepB (by assumption)) h5)) (fun hHeld => ?_)
  clear hK K
  try simp only [Act.put, List.setIfInBounds_toArray, List.set_cons_zero, List.set_cons_succ]
  refine wpAnyH_take (i := 13) (v := ?v13) (by simp only [List.getElem?_toArray, List.getElem?_cons_succ, List.getElem?_cons_zero]; rfl) (by kernel_rfl) (by kernel_rfl) (by kernel_rfl) (fun _ _ _ h => h) (Or.inl ⟨by rfl, ?hy13⟩) (by assumption) ?rest13
  case hy13 =>
    intro w hSw
    try dsimp only at hSw
    go_simp
    all_goals with_reducible rfl
  try simp only [Act.put, List.setIfInBounds_toArray, List.set_cons_zero, List.set_cons_succ]
  refine wpAnyH_ready (rs := [18]) (by kernel_rfl) (by simp) ?_
  refine AllReadyH.cons (by simp only [List.getElem?_toArray, List.getElem?_cons_succ, List.getElem?_cons_zero]; rfl) (fun K hK => ?_) AllReadyH.nil
  go_simp
  go_at_call 56
  refine (rput_any _ _ (by omega) (by omega)).mono ?_
  rintro e w5 ⟨rfl, h5⟩
  refine hK.out _ _ (HA.out _ (below_next (keepB (by assumption)) h5)) (fun hHeld => ?_)
  clear hK K
  try simp only [Act.put, List.setIfInBounds_toArray, List.set_cons_zero, List.set_cons_succ]
  refine wpAnyH_take (i := 19) (v := ?v19) (by simp only [List.getElem?_toArray, List.getElem?_cons_succ, List.getElem?_cons_zero]; rfl) (by kernel_rfl) (by kernel_rfl) (by kernel_rfl) (fun _ _ _ h => h) (Or.inl ⟨by rfl, ?hy19⟩) (by assumption) ?rest19
  case hy19 =>
    intro w hSw
    try dsimp only at hSw
    go_simp
    all_goals with_reducible rfl
  try simp only [Act.put, List.setIfInBounds_toArray, List.set_cons_zero, List.set_cons_succ]
  refine wpAnyH_ready (rs := [24]) (by kernel_rfl) (by simp) ?_
  refine AllReadyH.cons (by simp only [List.getElem?_toArray, List.getElem?_cons_succ, List.getElem?_cons_zero]; rfl) (fun K hK => ?_) AllReadyH.nil
  go_simp
  go_at_call 56
  refine (rput_any _ _ (by omega) (by omega)).mono ?_
  rintro e w5 ⟨rfl, h5⟩
  refine hK.out _ _ (HA.out _ (below_next (keepB (by assumption)) h5)) (fun hHeld => ?_)
  clear hK K
  try simp only [Act.put, List.setIfInBounds_toArray, List.set_cons_zero, List.set_cons_succ]
  refine wpAnyH_take (i := 25) (v := ?v25) (by simp only [List.getElem?_toArray, List.getElem?_cons_succ, List.getElem?_cons_zero]; rfl) (by kernel_rfl) (by kernel_rfl) (by kernel_rfl) (fun _ _ _ h => h) (Or.inl ⟨by rfl, ?hy25⟩) (by assumption) ?rest25
  case hy25 =>
    intro w hSw
    try dsimp only at hSw
    go_simp
    all_goals with_reducible rfl
  try simp only [Act.put, List.setIfInBounds_toArray, List.set_cons_zero, List.set_cons_succ]
  refine wpAnyH_ready (rs := [26]) (by kernel_rfl) (by simp) ?_
  refine AllReadyH.cons (by simp only [List.getElem?_toArray, List.getElem?_cons_succ, List.getElem?_cons_zero]; rfl) (fun K hK => ?_) AllReadyH.nil
  go_simp
  refine hK.out _ _ (HA.out _ (below_next (keepB (by assumption)) (conv_below _ _))) (fun hHeld => ?_)
  clear hK K
  try simp only [Act.put, List.setIfInBounds_toArray, List.set_cons_zero, List.set_cons_succ]
  refine wpAnyH_take (i := 27) (v := ?v27) (by simp only [List.getElem?_toArray, List.getElem?_cons_succ, List.getElem?_cons_zero]; rfl) (by kernel_rfl) (by kernel_rfl) (by kernel_rfl) (fun _ _ _ h => h) (Or.inl ⟨by rfl, ?hy27⟩) (by assumption) ?rest27
  case hy27 =>
    intro w hSw
    try dsimp only at hSw
    go_simp
    all_goals with_reducible rfl
  try simp only [Act.put, List.setIfInBounds_toArray, List.set_cons_zero, List.set_cons_succ]
  refine wpAnyH_done (by kernel_rfl) ?_ _
  refine NoPanic.normal ?_
  have hdef : headS I = (((((⟨#[86, 69, 76, 77]⟩ : ByteArray) ++ putS ((I.banks.length : Int) % 65536)) ++ putS I.entry) ++ putS I.vector) ++ putS ((I.data.length : Int) % 65536)) ++ putS ((I.relocs.length : Int) % 65536) := rfl
  rw [← hdef] at hHeld ⊢
  have hO := conv_owns w5 (headS I) W1.heap.size (by have := (keepB (by assumption : _ ∧ _ ∧ _ ∧ _ ∧ _ ∧ Below W1.heap.size W1 w5)).size; omega) (by rw [hHz]; unfold maxLen; omega)
  have hB := keepB hHeld
  rw [hHz, HHS.out, ← headL_len I] at hO
  have HO0 := Lib.hid hO
  have HB0 := Lib.hid hB
  clear hO hB hHeld hdef hcv hz2 hz4 hza
  generalize convW w5 (headS I) = WA at *
  generalize convV w5 (headS I) = VA at *
  obtain ⟨i0, hi, hz0, hz1, hz2⟩ := info_parts infoByte
  go_wp2_with fail
  go_loopw [3, 4] (fun v i wr => ∃ k : Nat, k ≤ I.data.length ∧ i = .int .i64 k ∧ OwnsM wr W1.heap.size 5 1 v (headL I ++ (I.data.take k).flatMap objB).length (Lib.byteCells (headL I ++ (I.data.take k).flatMap objB)) ∧ Below W1.heap.size W1 wr) (fun _ i _ => I.data.length - (intOf i).toNat)
  case atStart => exact ⟨0, Nat.zero_le _, rfl, by simpa using HO0.out, HB0.out⟩
  case round =>
    obtain ⟨k, hk, rfl, hO, hB⟩ := hrel
    have HO := Lib.hid hO
    have HB := Lib.hid hB
    have z0 := (hB.cell (p := ⟨w.heap.size, 0, none⟩) hBx).trans y0
    have z3 := (hB.cell (p := ⟨w.heap.size, 3, none⟩) hBx).trans y3
    have z4 := (hB.cell (p := ⟨w.heap.size, 4, none⟩) hBx).trans y4
    by_cases hlt : k < I.data.length
    · obtain ⟨o, hok⟩ := at_some I.data k hlt
      obtain ⟨B, rfl, hBs, c0, c1, c2, ⟨o0, o1⟩, ⟨o2, o3⟩, ⟨o4, o5⟩⟩ := (HI.out.kept hB).data k o hok
      have HK := Lib.hid hok
      have hfit := prefix1 I (k + 1)
      clear hok hO hB
      have q0 : IntKind.u8.wrap o.bank = o.bank % 256 := IntKind.wrap_u8 _
      have qaddr1 : IntKind.u8.wrap o.addr = o.addr % 256 := IntKind.wrap_u8 _
      have qaddr2 : IntKind.u16.wrap (o.addr.tdiv 256) = o.addr / 256 := div_in _ _ o2 o3 (by omega)
      have qaddr3 : IntKind.u8.wrap (o.addr / 256) = o.addr / 256 % 256 := IntKind.wrap_u8 _
      have qsize1 : IntKind.u8.wrap o.size = o.size % 256 := IntKind.wrap_u8 _
      have qsize2 : IntKind.u16.wrap (o.size.tdiv 256) = o.size / 256 := div_in _ _ o4 o5 (by omega)
      have qsize3 : IntKind.u8.wrap (o.size / 256) = o.size / 256 % 256 := IntKind.wrap_u8 _
      have hln : (headL I ++ (I.data.take k).flatMap objB).length + 5 ≤ 1099511627776 := by
        have h2 := hfit
        rw [flat_take objB I.data k o HK.out] at h2
        have h3 := HLen.out
        have h4 : (objB o).length = 5 := rfl
        simp only [List.length_append] at h2 ⊢
        omega
      go_wp2_with (first
        | (at_builtin
           refine wpList_append_ownM _ rfl _ _ 36 rfl W1.heap.size 5 i0 (.int .u8 0) 1 1 Try.underlying36 hi hz0 hz1 hz2 rfl (by decide) _ _ _ rfl (HO.out.kept (below_alloc (below1 wr (Obj.cells #[Value.int IntKind.i64 o.bank, Value.int IntKind.u16 o.addr, Value.int IntKind.u16 o.size] 39)) _)) ⟨wr.heap.size + 1, 0, none⟩ 5 5 [.int .u8 (o.bank % 256), .int .u8 (o.addr % 256), .int .u8 (o.addr / 256 % 256), .int .u8 (o.size % 256), .int .u8 (o.size / 256 % 256)] rfl rfl ?d1 ?d2 ?d3 ?d4 ?d5 ?_
           case d1 =>
             intro j u hj
             match j, hj with
             | 0, hj => simp at hj; subst hj; simp [Addr.add]
             | 1, hj => simp at hj; subst hj; simp [Addr.add]
             | 2, hj => simp at hj; subst hj; simp [Addr.add]
             | 3, hj => simp at hj; subst hj; simp [Addr.add]
             | 4, hj => simp at hj; subst hj; simp [Addr.add]
           case d2 => intro u hu; simp at hu; rcases hu with rfl | rfl | rfl | rfl | rfl <;> rfl
           case d3 => unfold maxLen; omega
           case d4 => omega
           case d5 => have := HB.out.size; simp; omega
           intro v' w2 hown' hgrow _
           have hB2 := Below.grown (below_allocs HB.out (hs := HB.out.size) (Obj.cells #[Value.int IntKind.i64 o.bank, Value.int IntKind.u16 o.addr, Value.int IntKind.u16 o.size] 39) (Obj.cells #[Value.int IntKind.u8 (o.bank % 256), Value.int IntKind.u8 (o.addr % 256), Value.int IntKind.u8 (o.addr / 256 % 256), Value.int IntKind.u8 (o.size % 256), Value.int IntKind.u8 (o.size / 256 % 256)] 5)) hgrow (by have := HB.out.size; simp; omega) (fun j hj => (HO.out.lt j hj).1)))
      go_roundw
      case rel =>
        refine ⟨k + 1, by omega, by go_num, ?_, hB2⟩
        have e : headL I ++ (I.data.take (k + 1)).flatMap objB = headL I ++ (I.data.take k).flatMap objB ++ objB o := by
          rw [flat_take objB I.data k o HK.out, ← List.append_assoc]
        rw [e, Lib.byteCells_append, List.length_append, objB_cells]
        exact hown'
      case measure => simp [intOf]; omega
    · obtain rfl : k = I.data.length := by omega
      clear hlt
      rw [List.take_length] at hO
      have HO0 := Lib.hid hO
      have HB0 := Lib.hid hB
      clear HO HB hO hB
      go_wp2_with fail
      go_loopw [3, 6] (fun v i wr => ∃ k : Nat, k ≤ I.relocs.length ∧ i = .int .i64 k ∧ OwnsM wr W1.heap.size 5 1 v (headL I ++ I.data.flatMap objB ++ (I.relocs.take k).flatMap relB).length (Lib.byteCells (headL I ++ I.data.flatMap objB ++ (I.relocs.take k).flatMap relB)) ∧ Below W1.heap.size W1 wr) (fun _ i _ => I.relocs.length - (intOf i).toNat)
      case atStart => exact ⟨0, Nat.zero_le _, rfl, by simpa using HO0.out, HB0.out⟩
      case round =>
        obtain ⟨k, hk, rfl, hO, hB⟩ := hrel
        have HO := Lib.hid hO
        have HB := Lib.hid hB
        have z0 := (hB.cell (p := ⟨w.heap.size, 0, none⟩) hBx).trans y0
        have z3 := (hB.cell (p := ⟨w.heap.size, 3, none⟩) hBx).trans y3
        have z4 := (hB.cell (p := ⟨w.heap.size, 4, none⟩) hBx).trans y4
        by_cases hlt : k < I.relocs.length
        · obtain ⟨o, hok⟩ := at_some I.relocs k hlt
          obtain ⟨B, rfl, hBs, c0, c1, ⟨o0, o1⟩, ⟨o2, o3⟩⟩ := (HI.out.kept hB).relocs k o hok
          have HK := Lib.hid hok
          have hfit := prefix2 I (k + 1)
          clear hok hO hB
          have q0 : IntKind.u8.wrap o.bank = o.bank % 256 := IntKind.wrap_u8 _
          have qoff1 : IntKind.u8.wrap o.off = o.off % 256 := IntKind.wrap_u8 _
          have qoff2 : IntKind.u16.wrap (o.off.tdiv 256) = o.off / 256 := div_in _ _ o2 o3 (by omega)
          have qoff3 : IntKind.u8.wrap (o.off / 256) = o.off / 256 % 256 := IntKind.wrap_u8 _
          have hln : (headL I ++ I.data.flatMap objB ++ (I.relocs.take k).flatMap relB).length + 3 ≤ 1099511627776 := by
            have h2 := hfit
            rw [flat_take relB I.relocs k o HK.out] at h2
            have h3 := HLen.out
            have h4 : (relB o).length = 3 := rfl
            simp only [List.length_append] at h2 ⊢
            omega
          go_wp2_with (first
            | (at_builtin
               refine wpList_append_ownM _ rfl _ _ 36 rfl W1.heap.size 5 i0 (.int .u8 0) 1 1 Try.underlying36 hi hz0 hz1 hz2 rfl (by decide) _ _ _ rfl (HO.out.kept (below_alloc (below1 wr (Obj.cells #[Value.int IntKind.i64 o.bank, Value.int IntKind.u16 o.off] 41)) _)) ⟨wr.heap.size + 1, 0, none⟩ 3 3 [.int .u8 (o.bank % 256), .int .u8 (o.off % 256), .int .u8 (o.off / 256 % 256)] rfl rfl ?d1 ?d2 ?d3 ?d4 ?d5 ?_
               case d1 =>
                 intro j u hj
                 match j, hj with
                 | 0, hj => simp at hj; subst hj; simp [Addr.add]
                 | 1, hj => simp at hj; subst hj; simp [Addr.add]
                 | 2, hj => simp at hj; subst hj; simp [Addr.add]
               case d2 => intro u hu; simp at hu; rcases hu with rfl | rfl | rfl <;> rfl
               case d3 => unfold maxLen; omega
               case d4 => omega
               case d5 => have := HB.out.size; simp; omega
               intro v' w2 hown' hgrow _
               have hB2 := Below.grown (below_allocs HB.out (hs := HB.out.size) (Obj.cells #[Value.int IntKind.i64 o.bank, Value.int IntKind.u16 o.off] 41) (Obj.cells #[Value.int IntKind.u8 (o.bank % 256), Value.int IntKind.u8 (o.off % 256), Value.int IntKind.u8 (o.off / 256 % 256)] 5)) hgrow (by have := HB.out.size; simp; omega) (fun j hj => (HO.out.lt j hj).1)))
          go_roundw
          case rel =>
            refine ⟨k + 1, by omega, by go_num, ?_, hB2⟩
            have e : headL I ++ I.data.flatMap objB ++ (I.relocs.take (k + 1)).flatMap relB = headL I ++ I.data.flatMap objB ++ (I.relocs.take k).flatMap relB ++ relB o := by
              rw [flat_take relB I.relocs k o HK.out, ← List.append_assoc]
            rw [e, Lib.byteCells_append, List.length_append, relB_cells]
            exact hown'
          case measure => simp [intOf]; omega
        · obtain rfl : k = I.relocs.length := by omega
          clear hlt
          rw [List.take_length] at hO
          have HO0 := Lib.hid hO
          have HB0 := Lib.hid hB
          clear HO HB hO hB
          go_wp2_with fail
          go_loopw [3, 8] (fun v i wr => ∃ k : Nat, k ≤ I.banks.length ∧ i = .int .i64 k ∧ OwnsM wr W1.heap.size 5 1 v (headL I ++ I.data.flatMap objB ++ I.relocs.flatMap relB ++ (I.banks.take k).flatMap strB).length (Lib.byteCells (headL I ++ I.data.flatMap objB ++ I.relocs.flatMap relB ++ (I.banks.take k).flatMap strB)) ∧ Below W1.heap.size W1 wr) (fun _ i _ => I.banks.length - (intOf i).toNat)
          case atStart => exact ⟨0, Nat.zero_le _, rfl, by simpa using HO0.out, HB0.out⟩
          case round =>
            obtain ⟨k, hk, rfl, hO, hB⟩ := hrel
            have HO := Lib.hid hO
            have HB := Lib.hid hB
            have z0 := (hB.cell (p := ⟨w.heap.size, 0, none⟩) hBx).trans y0
            have z3 := (hB.cell (p := ⟨w.heap.size, 3, none⟩) hBx).trans y3
            have z4 := (hB.cell (p := ⟨w.heap.size, 4, none⟩) hBx).trans y4
            by_cases hlt : k < I.banks.length
            · obtain ⟨o, hok⟩ := at_some I.banks k hlt
              obtain ⟨B, rfl, hBs, c0, hos⟩ := (HI.out.kept hB).banks k o hok
              have HK := Lib.hid hok
              have hfit := prefix3 I (k + 1)
              clear hok hO hB
              have hln : (headL I ++ I.data.flatMap objB ++ I.relocs.flatMap relB ++ (I.banks.take k).flatMap strB).length + o.size ≤ 1099511627776 := by
                have h2 := hfit
                rw [flat_take strB I.banks k o HK.out] at h2
                have h3 := HLen.out
                have h4 : (strB o).length = o.size := rfl
                simp only [List.length_append] at h2 ⊢
                omega
              go_wp2_with (first
                | (at_builtin
                   refine wpList_append_own_stringM _ rfl _ _ 36 9 rfl W1.heap.size 5 i0 Try.underlying36 Try.underlying9 hi hz0 hz1 hz2 _ _ _ rfl HO.out o rfl ?d3 ?d4 ?d5 ?_
                   case d3 => unfold maxLen; omega
                   case d4 => omega
                   case d5 => exact HB.out.size
                   intro v' w2 hown' hgrow _
                   have hB2 := Below.grown HB.out hgrow HB.out.size (fun j hj => (HO.out.lt j hj).1)))
              go_roundw
              case rel =>
                refine ⟨k + 1, by omega, by go_num, ?_, hB2⟩
                have e : headL I ++ I.data.flatMap objB ++ I.relocs.flatMap relB ++ (I.banks.take (k + 1)).flatMap strB = headL I ++ I.data.flatMap objB ++ I.relocs.flatMap relB ++ (I.banks.take k).flatMap strB ++ o.data.toList := by
                  rw [flat_take strB I.banks k o HK.out, ← List.append_assoc]; rfl
                rw [e, Lib.byteCells_append, List.length_append]
                exact hown'
              case measure => simp [intOf]; omega
            · obtain rfl : k = I.banks.length := by omega
              clear hlt
              rw [List.take_length] at hO
              have HO0 := Lib.hid hO
              have HB0 := Lib.hid hB
              clear HO HB hO hB
              go_wp2_with fail
              have hO := HO0.out
              change OwnsM wr W1.heap.size 5 1 _ (bodyL I).length (Lib.byteCells (bodyL I)) at hO
              obtain ⟨g, cap, hv⟩ := owned_at hO (by intro h; simp [bodyL, headL] at h)
              subst hv
              have hcv := back_run wr _ (bodyL I) _ _ hO (by intro h; have := congrArg List.length h; simp [bodyL, headL] at this)
              have hsz : (⟨(bodyL I).toArray⟩ : ByteArray).size = (bodyL I).length := rfl
              obtain ⟨S, hS⟩ : ∃ S, sumI (bytesOf (bodyL I)) (bodyL I).length = S := ⟨_, rfl⟩
              have hS0 := sumI_bd (bytesOf (bodyL I)) (bodyL I).length
              rw [hS] at hS0
              obtain ⟨S0, S1⟩ := hS0
              have hR := HR.out
              rw [hS, ← app_eq (bodyL I) (putL [S]) (putS S) (putS_list S S0 S1)] at hR
              have hsum : ∀ w, Calls Try.prog 57 #[.string ⟨(bodyL I).toArray⟩] w fun e w' => e = .returned (.int .u16 S) ∧ w = w' := fun w => by
                rw [← hS]; exact rsum_any (bytesOf (bodyL I)) w (by unfold maxLen; rw [bytesOf_size]; have := HLen.out; omega)
              have hl9 := HLen.out
              generalize (⟨(bodyL I).toArray⟩ : ByteArray) = BS at hcv hR hsum hsz
              have hq : BS.size + 2 ≤ 9223372036854775807 := by omega
              have hq2 : (putS S).size = 2 := rfl
              have HR2 := Lib.hid hR
              have Hsum := Lib.hid hsum
              clear hR hsum hO HO0 hS hl9 HR
              rw [hcv]
              simp only [Result.andThen]
              rw [Oper.upon_value]
              go_wp2_with (first
                | (go_at_call 57; refine (Hsum.out _).mono ?_; rintro e wT ⟨rfl, rfl⟩)
                | (go_at_call 56; refine (rput_any S _ S0 S1).mono ?_; rintro e wU ⟨rfl, hU⟩))
              go_ret
              exact ⟨by rw [HR2.out]; rfl, below_next HB1.out (below_next HB0.out hU)⟩
end Go.Proofs.Ytgdiaaoekkdibaa
