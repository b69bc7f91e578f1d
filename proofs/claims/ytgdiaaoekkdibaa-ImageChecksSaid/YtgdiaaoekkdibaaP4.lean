/- Plain mathematics of drawn images: chains of objects and of relocations. No program in sight. -/
import Derived.Test.YtgdiaaoekkdibaaP3
import Derived.Test.YtgdiaaoekkdibaaP2
namespace Go.Proofs.Ytgdiaaoekkdibaa
set_option linter.unusedVariables false
open Go.RowKit
def lastO {α : Type} (p : Option α) (l : List α) : Option α := match l.getLast? with | none => p | some q => some q
theorem lastO_nil {α : Type} (p : Option α) : lastO p ([] : List α) = p := rfl
theorem lastO_cons {α : Type} (p : Option α) (x : α) (l : List α) : lastO p (x :: l) = lastO (some x) l := by
  unfold lastO
  cases l with
  | nil => rfl
  | cons y l => rw [List.getLast?_cons_cons, List.getLast?_cons]
theorem lastO_snoc {α : Type} (p : Option α) (l : List α) (x : α) : lastO p (l ++ [x]) = some x := by unfold lastO; rw [List.getLast?_concat]
def lateO (p : Option ObjI) (o : ObjI) : Prop := match p with | none => False | some p => p.after o
def chainO : Option ObjI → List ObjI → Prop
  | _, [] => True
  | p, o :: l => ¬ lateO p o ∧ chainO (some o) l
theorem chainO_snoc (l : List ObjI) (o : ObjI) : ∀ p, chainO p l → ¬ lateO (lastO p l) o → chainO p (l ++ [o]) := by
  induction l with
  | nil => intro p _ h; exact ⟨h, trivial⟩
  | cons x l ih => intro p h h2; exact ⟨h.1, ih (some x) h.2 (by rwa [lastO_cons] at h2)⟩
theorem chainO_first (nb : Int) (l : List ObjI) : ∀ p n, chainO p l → (∀ o ∈ l, ¬ o.bad0 nb) → firstObj nb p l n = -1 := by
  induction l with
  | nil => intro p n _ _; rfl
  | cons x l ih =>
    intro p n h hb
    have hw : objWrong nb p x = false := by
      have hx := hb x (List.mem_cons_self ..)
      unfold objWrong
      cases p with
      | none => exact decide_eq_false hx
      | some q => exact decide_eq_false (fun hh => hh.elim hx h.1)
    unfold firstObj
    rw [hw]
    exact ih (some x) (n + 1) h.2 (fun o ho => hb o (List.mem_cons_of_mem _ ho))
def chainR : Option RelI → List RelI → Prop
  | _, [] => True
  | p, o :: l => ¬ RelI.late p o ∧ chainR (some o) l
theorem chainR_snoc (l : List RelI) (o : RelI) : ∀ p, chainR p l → ¬ RelI.late (lastO p l) o → chainR p (l ++ [o]) := by
  induction l with
  | nil => intro p _ h; exact ⟨h, trivial⟩
  | cons x l ih => intro p h h2; exact ⟨h.1, ih (some x) h.2 (by rwa [lastO_cons] at h2)⟩
theorem chainR_first (banks : List ByteArray) (data : List ObjI) (l : List RelI) : ∀ p n, chainR p l → (∀ r ∈ l, ¬ r.bad0 banks.length ∧ relMeets banks data r = true) → firstRel banks data p l n = -1 := by
  induction l with
  | nil => intro p n _ _; rfl
  | cons x l ih =>
    intro p n h hb
    obtain ⟨hx, hm⟩ := hb x (List.mem_cons_self ..)
    have hw : relWrong banks data p x = false := by
      unfold relWrong; rw [hm, decide_eq_false (fun hh => hh.elim hx h.1)]; rfl
    unfold firstRel
    rw [hw]
    exact ih (some x) (n + 1) h.2 (fun o ho => hb o (List.mem_cons_of_mem _ ho))
/-- A byte lies in an object. -/
def hit (data : List ObjI) (v : Int) : Prop := ∃ o ∈ data, o.has (-1) v = true
theorem hit_find (v : Int) (data : List ObjI) : ∀ n, hit data v → (objFind (-1) v data n).2.2 = true := by
  induction data with
  | nil => intro n h; obtain ⟨o, ho, _⟩ := h; cases ho
  | cons x l ih =>
    intro n h
    unfold objFind
    by_cases hx : x.has (-1) v = true
    · rw [if_pos hx]
    · rw [if_neg hx]
      obtain ⟨o, ho, hh⟩ := h
      rcases List.mem_cons.1 ho with rfl | ho
      · exact absurd hh hx
      · exact ih _ ⟨o, ho, hh⟩
theorem hit_more {data : List ObjI} {v : Int} (h : hit data v) (l : List ObjI) : hit (data ++ l) v := by
  obtain ⟨o, ho, hh⟩ := h; exact ⟨o, List.mem_append_left _ ho, hh⟩
/-- The word at a relocation lies in an object. -/
def RelHit (banks : List ByteArray) (data : List ObjI) (r : RelI) : Prop := hit data (relWord banks r)
theorem relHit_meets {banks : List ByteArray} {data : List ObjI} {r : RelI} (h : RelHit banks data r) : relMeets banks data r = true := hit_find _ data 0 h
theorem bankOf_more (banks : List ByteArray) (S : ByteArray) (r : RelI) (h : r.bank.toNat < banks.length) : bankOf (banks ++ [S]) r = bankOf banks r := by
  unfold bankOf; rw [List.getElem?_append_left h]
theorem bankOf_new (banks : List ByteArray) (S : ByteArray) (r : RelI) (h : r.bank = banks.length) : bankOf (banks ++ [S]) r = S := by
  unfold bankOf; rw [h, Int.toNat_natCast, List.getElem?_append_right (Nat.le_refl _), Nat.sub_self]; rfl
theorem relWord_at (banks : List ByteArray) (r : RelI) : relWord banks r = wordAt (bankOf banks r) r.off.toNat := rfl
theorem relHit_bank {banks : List ByteArray} {data : List ObjI} {r : RelI} (h : RelHit banks data r) (S : ByteArray) (hr : r.bank.toNat < banks.length) : RelHit (banks ++ [S]) data r := by
  unfold RelHit at *
  rw [relWord_at, bankOf_more banks S r hr]; exact h
theorem relHit_data {banks : List ByteArray} {data : List ObjI} {r : RelI} (h : RelHit banks data r) (l : List ObjI) : RelHit banks (data ++ l) r := hit_more h l
/-- A row of bytes, as a string. -/
def rowL (F : Nat → Int) : List UInt8 := (List.range 4096).map (fun j => UInt8.ofNat (F j).toNat)
def rowS (F : Nat → Int) : ByteArray := bytesOf (rowL F)
theorem rowL_len (F : Nat → Int) : (rowL F).length = 4096 := by unfold rowL; rw [List.length_map, List.length_range]
theorem rowS_size (F : Nat → Int) : (rowS F).size = 4096 := (bytesOf_size _).trans (rowL_len F)
theorem rowL_at (F : Nat → Int) (j : Nat) (h : j < 4096) : (rowL F)[j]? = some (UInt8.ofNat (F j).toNat) := by
  unfold rowL; rw [List.getElem?_map, List.getElem?_range h]; rfl
theorem u8_nat (n : Int) (h0 : 0 ≤ n) (h1 : n < 256) : ((UInt8.ofNat n.toNat).toNat : Int) = n := by
  rw [UInt8.toNat_ofNat']
  have : n.toNat % 2 ^ 8 = n.toNat := Nat.mod_eq_of_lt (by simp only [Nat.reducePow]; omega)
  rw [this]; omega
theorem bytesOf_data (l : List UInt8) : (bytesOf l).data.toList = l := rfl
theorem rowS_byte (F : Nat → Int) (hF : ∀ j, 0 ≤ F j ∧ F j < 256) (j : Nat) (h : j < 4096) : byteI (rowS F) j = F j := by
  have e : (rowS F).data.toList = rowL F := bytesOf_data _
  unfold byteI
  rw [e, rowL_at F j h]
  exact u8_nat _ (hF j).1 (hF j).2
theorem rowS_word (F : Nat → Int) (hF : ∀ j, 0 ≤ F j ∧ F j < 256) (j : Nat) (h : j + 1 < 4096) : wordAt (rowS F) j = F j + F (j + 1) * 256 := by
  rw [wordAt_eq, rowS_byte F hF j (by omega), rowS_byte F hF (j + 1) h]
def setF (F : Nat → Int) (i : Nat) (v : Int) : Nat → Int := fun j => if j = i then v else F j
theorem setF_bd {F : Nat → Int} (hF : ∀ j, 0 ≤ F j ∧ F j < 256) (i : Nat) (v : Int) (h0 : 0 ≤ v) (h1 : v < 256) : ∀ j, 0 ≤ setF F i v j ∧ setF F i v j < 256 := by
  intro j; unfold setF; split
  · exact ⟨h0, h1⟩
  · exact hF j
/-- What a drawn image has, while bank b is being made: b banks are done. -/
structure DrawnTo (nb b : Nat) (ram : List ObjI) (I : Img) : Prop where
  entry : 0 ≤ I.entry ∧ I.entry < 4096
  vector : 0 ≤ I.vector ∧ I.vector < 4096
  full : Full I.banks
  count : I.banks.length = b
  data : ∃ rest, I.data = ram ++ rest
  ram : ∀ o ∈ ram, o.bank = -1 ∧ 16384 ≤ o.addr ∧ 1 ≤ o.size ∧ o.size ≤ 50 ∧ o.addr + o.size ≤ 24576
  good : ∀ o ∈ I.data, ¬ o.bad0 nb ∧ o.ok
  chain : chainO none I.data
  rgood : ∀ r ∈ I.relocs, 0 ≤ r.bank ∧ r.bank < nb ∧ 0 ≤ r.off ∧ r.off ≤ 4094
  rchain : chainR none I.relocs
/-- The relocations of the banks that are done. -/
def DoneR (I : Img) : Prop := ∀ r ∈ I.relocs, r.bank < I.banks.length → RelHit I.banks I.data r
theorem drawn_valid {nb : Nat} {ram : List ObjI} {I : Img} (h : DrawnTo nb nb ram I) (hd : DoneR I) (h1 : 1 ≤ nb) (h2 : nb ≤ 3) (l2 : I.data.length ≤ 512) (l3 : I.relocs.length ≤ 20000) : checkI I = 0 := by
  have hc := h.count
  have e1 : firstObj I.banks.length none I.data 0 = -1 := by
    rw [hc]; exact chainO_first nb I.data none 0 h.chain (fun o ho => (h.good o ho).1)
  have e2 : firstRel I.banks I.data none I.relocs 0 = -1 := by
    refine chainR_first I.banks I.data I.relocs none 0 h.rchain (fun r hr => ?_)
    obtain ⟨a, b, c, d⟩ := h.rgood r hr
    refine ⟨?_, relHit_meets (hd r hr (by omega))⟩
    unfold RelI.bad0; omega
  obtain ⟨en0, en1⟩ := h.entry
  obtain ⟨ve0, ve1⟩ := h.vector
  have hF := h.full
  unfold checkI
  rw [if_neg, if_neg, if_neg]
  · rw [e1, e2]; omega
  · omega
  · intro hh
    rcases hh with hh | hh | hh
    · omega
    · omega
    · exact hh hF
end Go.Proofs.Ytgdiaaoekkdibaa
