/- The builder's contracts in this claim's words, and the contract of Bytes' closure. -/
import Derived.Test.YtgdiaaoekkdibaaB1
import Derived.Test.YtgdiaaoekkdibaaB2
import Derived.Test.YtgdiaaoekkdibaaP1
namespace Go.Proofs.Ytgdiaaoekkdibaa
set_option linter.unusedVariables false
set_option linter.unusedSimpArgs false
open Go.RowKit
/-- The builder in block b holds l. -/
def Bld (b : Nat) (l : List UInt8) (w : World) : Prop := Lib.IsBuilderF 87 5 b b (Lib.byteCells l) w
/-- What a write leaves alone. -/
structure Step (b : Nat) (w w' : World) : Prop where
  below : Below b w w'
  others : Lib.OthersKept 5 (some b) w w'
theorem Step.refl (b : Nat) (w : World) : Step b w w := ⟨Below.refl _ _, Lib.OthersKept.refl _ _ _⟩
theorem Step.trans {b : Nat} {w w1 w2 : World} (h : Step b w w1) (k : Step b w1 w2) : Step b w w2 := ⟨h.below.trans k.below, h.others.trans k.others⟩
theorem Step.alloc {b : Nat} {w w1 : World} (h : Step b w w1) (hb : b < w.heap.size) (o : Obj) : Step b w (w1.alloc o) :=
  ⟨h.below.alloc (by have := h.below.size; omega) o, h.others.alloc o⟩
theorem Step.ofBelow {b : Nat} {w w1 : World} (h : Below w.heap.size w w1) (hb : b < w.heap.size) : Step b w w1 :=
  ⟨h.mono (Nat.le_of_lt hb), fun k o hk _ _ => (h.block k (Array.getElem?_eq_some_iff.1 hk).1).trans hk⟩
theorem Step.row {b k : Nat} {w w1 : World} {cs : Array Value} {t : TypeId} {fz : Nat × Nat} (h : Step b w w1) (hk : w.heap[k]? = some (.cells cs t fz)) (hb : k ≠ b) (ht : t ≠ 5) : w1.heap[k]? = some (.cells cs t fz) :=
  h.others k _ hk (by simpa using hb) (fun c f e => ht (by injection e))
theorem Bld.lt {b : Nat} {l : List UInt8} {w : World} (h : Bld b l w) : b < w.heap.size := by
  rcases h with h | h
  · exact h.lt
  · exact h.lt
theorem bldAt_below {b : Nat} {p : Value} {l : List Value} {w w1 : World} (h : Lib.BuilderAtF 87 5 b b p l w) (hb : Below w.heap.size w w1) : Lib.BuilderAtF 87 5 b b p l w1 := by
  have hlt := h.lt
  obtain ⟨hB, v, hbk, hown, hne⟩ := h
  refine ⟨hB, v, (hb.block b hlt).trans hbk, ⟨hown.1, ?_⟩, hne⟩
  rcases hown.2 with hn | ⟨g, cap, cur, fz, hv, hbg, hg, rest⟩
  · exact .inl hn
  · exact .inr ⟨g, cap, cur, fz, hv, hbg, (hb.block g (Array.getElem?_eq_some_iff.1 hg).1).trans hg, rest⟩
theorem Bld.keptBelow {b : Nat} {l : List UInt8} {w w1 : World} (h : Bld b l w) (hb : Below w.heap.size w w1) : Bld b l w1 := by
  rcases h with h | h
  · exact .inl (bldAt_below h hb)
  · exact .inr (bldAt_below h hb)
theorem Bld.alloc {b : Nat} {l : List UInt8} {w : World} (h : Bld b l w) (o : Obj) : Bld b l (w.alloc o) := h.keptBelow (below1 w o)
def byteOf (n : Int) : UInt8 := UInt8.ofNat (n % 256).toNat
theorem byteOf_nat (n : Int) (h0 : 0 ≤ n) (h1 : n < 256) : ((byteOf n).toNat : Int) = n := by
  unfold byteOf
  have : n % 256 = n := by omega
  rw [this, UInt8.toNat_ofNat', Nat.mod_eq_of_lt (by omega)]; omega
theorem alloc_at (w : World) (o : Obj) : (w.alloc o).heap[w.heap.size]? = some o := by
  show (w.heap.push o)[w.heap.size]? = some o
  simp
theorem bld_new (w : World) : Bld w.heap.size [] (w.alloc (Obj.cells #[.pointer none, .slice none 0 0] 87)) := by
  refine .inl ⟨Nat.le_refl _, .slice none 0 0, alloc_at w _, World.ownsRowF_nil _ _ _ _, by simp [Value.ownBlock]⟩
theorem writeB_any (b : Nat) (l : List UInt8) (n : Int) (w : World) (h : Bld b l w) (h0 : 0 ≤ n) (h1 : n < 256) (hl : l.length < 140737488355328) :
    Calls Try.prog 53 #[.pointer (some ⟨b, 0, none⟩), .int .u8 n] w fun e w' => e = .returned .nilIface ∧ Bld b (l ++ [byteOf n]) w' ∧ Step b w w' := by
  refine (writeByte_any b b (Lib.byteCells l) n w h (by rw [Lib.byteCells_length]; omega) (Nat.le_of_lt h.lt)).mono ?_
  rintro e w' ⟨rfl, k, hb, ho⟩
  refine ⟨rfl, .inr ?_, hb, ho⟩
  have : Lib.byteCells (l ++ [byteOf n]) = Lib.byteCells l ++ [.int .u8 n] := by
    rw [Lib.byteCells_append]; simp [Lib.byteCells, byteOf_nat n h0 h1]
  rw [this]; exact k
theorem writeS_any (b : Nat) (l : List UInt8) (s : ByteArray) (w : World) (h : Bld b l w) (hl : l.length + s.size ≤ 140737488355328) :
    Calls Try.prog 51 #[.pointer (some ⟨b, 0, none⟩), .string s] w fun e w' => e = .returned (.tuple #[.int .i64 s.size, .nilIface]) ∧ Bld b (l ++ s.data.toList) w' ∧ Step b w w' := by
  refine (writeString_any b b (Lib.byteCells l) s w h (by rw [Lib.byteCells_length]; omega) (Nat.le_of_lt h.lt)).mono ?_
  rintro e w' ⟨rfl, k, hb, ho⟩
  refine ⟨rfl, .inr ?_, hb, ho⟩
  rw [Lib.byteCells_append]; exact k
theorem bstring_any (b : Nat) (l : List UInt8) (w : World) (h : Bld b l w) :
    Calls Try.prog 55 #[.pointer (some ⟨b, 0, none⟩)] w fun e w' => e = .returned (.string ⟨l.toArray⟩) ∧ Bld b l w' ∧ Step b w w' :=
  (Try.Builder_String_any_k b b l w h (Nat.le_of_lt h.lt)).mono (fun e w' h => ⟨h.1, h.2.1, h.2.2.1, h.2.2.2⟩)
/-- The bytes of words. -/
def putL (l : List Int) : List UInt8 := l.flatMap (fun n => [byteOf n, byteOf (n / 256)])
theorem putL_len (l : List Int) : (putL l).length = 2 * l.length := by
  unfold putL
  induction l with
  | nil => rfl
  | cons x l ih => simp only [List.flatMap_cons, List.length_append, ih, List.length_cons, List.length_nil]; omega
theorem putS_list (n : Int) (h0 : 0 ≤ n) (h1 : n < 65536) : (putS n).data.toList = [byteOf n, byteOf (n / 256)] := by
  unfold putS byteOf
  have : n / 256 % 256 = n / 256 := by omega
  rw [this]
theorem putL_take (l : List Int) (k : Nat) (n : Int) (h : l[k]? = some n) : putL (l.take (k + 1)) = putL (l.take k) ++ [byteOf n, byteOf (n / 256)] := by
  obtain ⟨hk, e⟩ := List.getElem?_eq_some_iff.1 h
  rw [List.take_succ_eq_append_getElem hk, e]
  unfold putL
  simp [List.flatMap_append]
set_option maxHeartbeats 1000000 in
theorem puts_any (b S c : Nat) (l : List UInt8) (ws : List Int) (w : World) (h : Bld b l w) (hS : w.heap[S]? = some (.cells (ws.map (Value.int .u16)).toArray 26 (0, 0))) (hSb : S ≠ b) (hw : ∀ n ∈ ws, OkU16 n) (hl : l.length + 2 * ws.length ≤ 140737488355328) :
    Calls Try.prog 50 #[.slice (some ⟨S, 0, none⟩) ws.length c, .pointer (some ⟨b, 0, none⟩)] w fun e w' => e = .returned (.tuple #[]) ∧ Bld b (l ++ putL ws) w' ∧ Step b w w' := by
  have H := Lib.hid h
  clear h
  go_enter Try.func50, Try.ntmps50
  go_wp2
  go_loopw [7] (fun i wr => ∃ k : Nat, k ≤ ws.length ∧ i = .int .i64 k ∧ Bld b (l ++ putL (ws.take k)) wr ∧ Step b w wr) (fun i _ => ws.length - (intOf i).toNat)
  case atStart => exact ⟨0, Nat.zero_le _, rfl, by simpa [putL] using H.out, Step.refl _ _⟩
  case round =>
    obtain ⟨k, hk, rfl, hb, hs⟩ := hrel
    by_cases hlt : k < ws.length
    · obtain ⟨n, hn⟩ := at_some ws k hlt
      obtain ⟨n0, n1⟩ := hw n (List.mem_of_getElem? hn)
      have hrow := hs.row hS hSb (by decide)
      have c0 : wr.cell? ⟨S, k, none⟩ = some (.int .u16 n) := by
        rw [Lib.cell_of_heap hrow]; simp [hn]
      have hlen := putL_len (ws.take k)
      have hlen2 : (ws.take k).length ≤ k := by rw [List.length_take]; omega
      have hsz : (putS n).size = 2 := rfl
      have HB := Lib.hid hb
      have HS := Lib.hid hs
      have HN := Lib.hid hn
      clear hb hs hn hrow hS H
      go_wp2_with (first
        | (go_at_call 52; refine (put_any _ _ n0 n1).mono ?_; rintro e w1 ⟨rfl, h1⟩)
        | (go_at_call 51; refine (writeS_any b _ _ _ (HB.out.keptBelow h1) (by simp only [List.length_append]; omega)).mono ?_; rintro e w2 ⟨rfl, h2, s2⟩))
      go_roundw
      case rel =>
        refine ⟨k + 1, by omega, by go_num, ?_, HS.out.trans ((Step.ofBelow h1 HB.out.lt).trans s2)⟩
        rw [putS_list n n0 n1, List.append_assoc, ← putL_take ws k n HN.out] at h2
        exact h2
      case measure => simp [intOf]; omega
    · obtain rfl : k = ws.length := by omega
      rw [List.take_length] at hb
      go_wp2
      go_end0
      exact ⟨rfl, hb, hs⟩
end Go.Proofs.Ytgdiaaoekkdibaa
