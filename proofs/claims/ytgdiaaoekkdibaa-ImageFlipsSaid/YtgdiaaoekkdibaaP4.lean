/- Plain mathematics of drawn images: chains of objects and of relocations. No program in sight. -/
import Derived.Test.YtgdiaaoekkdibaaP1
import Derived.Test.YtgdiaaoekkdibaaP2
namespace Go.Proofs.Ytgdiaaoekkdibaa
set_option linter.unusedVariables false
open Go.RowKit
def lastO {α : Type} (p : Option α) (l : List α) : Option α := match l.getLast? with | none => p | some q => some q
theorem lastO_nil {α : Type} (p : Option α) : lastO p ([] : List α) = p := rfl
theorem lastO_cons {α : Type} (p : Option α) (x : α) (l : List α) : lastO p (x :: l) = lastO (some x) l := by
  unfold lastO
  cases l with
  | nil => rfl
  | cons y l => rw [List.getLast?_cons_cons, List.getLast?_cons]
theorem lastO_snoc {α : Type} (p : Option α) (l : List α) (x : α) : lastO p (l ++ [x]) = some x := by unfold lastO; rw [List.getLast?_concat]
def lateO (p : Option ObjI) (o : ObjI) : Prop := match p with | none => False | some p => p.after o
def chainO : Option ObjI → List ObjI → Prop
  | _, [] => True
  | p, o :: l => ¬ lateO p o ∧ chainO (some o) l
theorem chainO_snoc (l : List ObjI) (o : ObjI) : ∀ p, chainO p l → ¬ lateO (lastO p l) o → chainO p (l ++ [o]) := by
  induction l with
  | nil => intro p _ h; exact ⟨h, trivial⟩
  | cons x l ih => intro p h h2; exact ⟨h.1, ih (some x) h.2 (by rwa [lastO_cons] at h2)⟩
theorem chainO_first (nb : Int) (l : List ObjI) : ∀ p n, chainO p l → (∀ o ∈ l, ¬ o.bad0 nb) → firstObj nb p l n = -1 := by
  induction l with
  | nil => intro p n _ _; rfl
  | cons x l ih =>
    intro p n h hb
    have hw : objWrong nb p x = false := by
      have hx := hb x (List.mem_cons_self ..)
      unfold objWrong
      cases p with
      | none => exact decide_eq_false hx
      | some q => exact decide_eq_false (fun hh => hh.elim hx h.1)
    unfold firstObj
    rw [hw]
    exact ih (some x) (n + 1) h.2 (fun o ho => hb o (List.mem_cons_of_mem _ ho))
def chainR : Option RelI → List RelI → Prop
  | _, [] => True
  | p, o :: l => ¬ RelI.late p o ∧ chainR (some o) l
theorem chainR_snoc (l : List RelI) (o : RelI) : ∀ p, chainR p l → ¬ RelI.late (lastO p l) o → chainR p (l ++ [o]) := by
  induction l with
  | nil => intro p _ h; exact ⟨h, trivial⟩
  | cons x l ih => intro p h h2; exact ⟨h.1, ih (some x) h.2 (by rwa [lastO_cons] at h2)⟩
theorem chainR_first (banks : List ByteArray) (data : List ObjI) (l : List RelI) : ∀ p n, chainR p l → (∀ r ∈ l, ¬ r.bad0 banks.length ∧ relMeets banks data r = true) → firstRel banks data p l n = -1 := by
  induction l with
  | nil => intro p n _ _; rfl
  | cons x l ih =>
    intro p n h hb
    obtain ⟨hx, hm⟩ := hb x (List.mem_cons_self ..)
    have hw : relWrong banks data p x = false := by
      unfold relWrong; rw [hm, decide_eq_false (fun hh => hh.elim hx h.1)]; rfl
    unfold firstRel
    rw [hw]
    exact ih (some x) (n + 1) h.2 (fun o ho => hb o (List.mem_cons_of_mem _ ho))
/-- A byte lies in an object. -/
def hit (data : List ObjI) (v : Int) : Prop := ∃ o ∈ data, o.has (-1) v = true
theorem hit_find (v : Int) (data : List ObjI) : ∀ n, hit data v → (objFind (-1) v data n).2.2 = true := by
  induction data with
  | nil => intro n h; obtain ⟨o, ho, _⟩ := h; cases ho
  | cons x l ih =>
    intro n h
    unfold objFind
    by_cases hx : x.has (-1) v = true
    · rw [if_pos hx]
    · rw [if_neg hx]
      obtain ⟨o, ho, hh⟩ := h
      rcases List.mem_cons.1 ho with rfl | ho
      · exact absurd hh hx
      · exact ih _ ⟨o, ho, hh⟩
theorem hit_more {data : List ObjI} {v : Int} (h : hit data v) (l : List ObjI) : hit (data ++ l) v := by
  obtain ⟨o, ho, hh⟩ := h; exact ⟨o, List.mem_append_left _ ho, hh⟩
/-- The word at a relocation lies in an object. -/
def RelHit (banks : List ByteArray) (data : List ObjI) (r : RelI) : Prop := hit data (relWord banks r)
theorem relHit_meets {banks : List ByteArray} {data : List ObjI} {r : RelI} (h : RelHit banks data r) : relMeets banks data r = true := hit_find _ data 0 h
theorem bankOf_more (banks : List ByteArray) (S : ByteArray) (r : RelI) (h : r.bank.toNat < banks.length) : bankOf (banks ++ [S]) r = bankOf banks r := by
  unfold bankOf; rw [List.getElem?_append_left h]
theorem bankOf_new (banks : List ByteArray) (S : ByteArray) (r : RelI) (h : r.bank = banks.length) : bankOf (banks ++ [S]) r = S := by
  unfold bankOf; rw [h, Int.toNat_natCast, List.getElem?_append_right (Nat.le_refl _), Nat.sub_self]; rfl
theorem relWord_at (banks : List ByteArray) (r : RelI) : relWord banks r = wordAt (bankOf banks r) r.off.toNat := rfl
theorem relHit_bank {banks : List ByteArray} {data : List ObjI} {r : RelI} (h : RelHit banks data r) (S : ByteArray) (hr : r.bank.toNat < banks.length) : RelHit (banks ++ [S]) data r := by
  unfold RelHit at *
  rw [relWord_at, bankOf_more banks S r hr]; exact h
theorem relHit_data {banks : List ByteArray} {data : List ObjI} {r : RelI} (h : RelHit banks data r) (l : List ObjI) : RelHit banks (data ++ l) r := hit_more h l
/-- A row of bytes, as a string. -/
def rowL (F : Nat → Int) : List UInt8 := (List.range 4096).map (fun j => UInt8.ofNat (F j).toNat)
def rowS (F : Nat → Int) : ByteArray := bytesOf (rowL F)
theorem rowL_len (F : Nat → Int) : (rowL F).length = 4096 := by unfold rowL; rw [List.length_map, List.length_range]
theorem rowS_size (F : Nat → Int) : (rowS F).size = 4096 := (bytesOf_size _).trans (rowL_len F)
theorem rowL_at (F : Nat → Int) (j : Nat) (h : j < 4096) : (rowL F)[j]? = some (UInt8.ofNat (F j).toNat) := by
  unfold rowL; rw [List.getElem?_map, List.getElem?_range h]; rfl
theorem u8_nat (n : Int) (h0 : 0 ≤ n) (h1 : n < 256) : ((UInt8.ofNat n.toNat).toNat : Int) = n := by
  rw [UInt8.toNat_ofNat']
  have : n.toNat % 2 ^ 8 = n.toNat := Nat.mod_eq_of_lt (by simp only [Nat.reducePow]; omega)
  rw [this]; omega
theorem bytesOf_data (l : List UInt8) : (bytesOf l).data.toList = l := rfl
theorem rowS_byte (F : Nat → Int) (hF : ∀ j, 0 ≤ F j ∧ F j < 256) (j : Nat) (h : j < 4096) : byteI (rowS F) j = F j := by
  have e : (rowS F).data.toList = rowL F := bytesOf_data _
  unfold byteI
  rw [e, rowL_at F j h]
  exact u8_nat _ (hF j).1 (hF j).2
theorem rowS_word (F : Nat → Int) (hF : ∀ j, 0 ≤ F j ∧ F j < 256) (j : Nat) (h : j + 1 < 4096) : wordAt (rowS F) j = F j + F (j + 1) * 256 := by
  rw [wordAt_eq, rowS_byte F hF j (by omega), rowS_byte F hF (j + 1) h]
def setF (F : Nat → Int) (i : Nat) (v : Int) : Nat → Int := fun j => if j = i then v else F j
theorem setF_bd {F : Nat → Int} (hF : ∀ j, 0 ≤ F j ∧ F j < 256) (i : Nat) (v : Int) (h0 : 0 ≤ v) (h1 : v < 256) : ∀ j, 0 ≤ setF F i v j ∧ setF F i v j < 256 := by
  intro j; unfold setF; split
  · exact ⟨h0, h1⟩
  · exact hF j
/-- What a drawn image has, while bank b is being made: b banks are done. -/
structure DrawnTo (nb b : Nat) (ram : List ObjI) (I : Img) : Prop where
  entry : 0 ≤ I.entry ∧ I.entry < 4096
  vector : 0 ≤ I.vector ∧ I.vector < 4096
  full : Full I.banks
  count : I.banks.length = b
  data : ∃ rest, I.data = ram ++ rest
  ram : ∀ o ∈ ram, o.bank = -1 ∧ 16384 ≤ o.addr ∧ 1 ≤ o.size ∧ o.size ≤ 50 ∧ o.addr + o.size ≤ 24576
  good : ∀ o ∈ I.data, ¬ o.bad0 nb ∧ o.ok
  chain : chainO none I.data
  rgood : ∀ r ∈ I.relocs, 0 ≤ r.bank ∧ r.bank < nb ∧ 0 ≤ r.off ∧ r.off ≤ 4094
  rchain : chainR none I.relocs
/-- The relocations of the banks that are done. -/
def DoneR (I : Img) : Prop := ∀ r ∈ I.relocs, r.bank < I.banks.length → RelHit I.banks I.data r
theorem drawn_valid {nb : Nat} {ram : List ObjI} {I : Img} (h : DrawnTo nb nb ram I) (hd : DoneR I) (h1 : 1 ≤ nb) (h2 : nb ≤ 3) (l2 : I.data.length ≤ 512) (l3 : I.relocs.length ≤ 20000) : checkI I = 0 := by
  have hc := h.count
  have e1 : firstObj I.banks.length none I.data 0 = -1 := by
    rw [hc]; exact chainO_first nb I.data none 0 h.chain (fun o ho => (h.good o ho).1)
  have e2 : firstRel I.banks I.data none I.relocs 0 = -1 := by
    refine chainR_first I.banks I.data I.relocs none 0 h.rchain (fun r hr => ?_)
    obtain ⟨a, b, c, d⟩ := h.rgood r hr
    refine ⟨?_, relHit_meets (hd r hr (by omega))⟩
    unfold RelI.bad0; omega
  obtain ⟨en0, en1⟩ := h.entry
  obtain ⟨ve0, ve1⟩ := h.vector
  have hF := h.full
  unfold checkI
  rw [if_neg, if_neg, if_neg]
  · rw [e1, e2]; omega
  · omega
  · intro hh
    rcases hh with hh | hh | hh
    · omega
    · omega
    · exact hh hF
end Go.Proofs.Ytgdiaaoekkdibaa
namespace Go.Proofs.Ytgdiaaoekkdibaa
set_option linter.unusedVariables false
open Go.RowKit
theorem lastO_mem {α : Type} {l : List α} {q : α} (h : lastO none l = some q) : q ∈ l := by
  unfold lastO at h
  split at h
  · cases h
  · rename_i x hx; cases h; exact List.mem_of_getLast? hx
theorem lateO_not {l : List ObjI} {o : ObjI} (h : ∀ q ∈ l, ¬ q.after o) : ¬ lateO (lastO none l) o := by
  cases hq : lastO none l with
  | none => exact id
  | some q => exact h q (lastO_mem hq)
theorem lateR_not {l : List RelI} {o : RelI} (h : ∀ q ∈ l, ¬ q.after o) : ¬ RelI.late (lastO none l) o := by
  cases hq : lastO none l with
  | none => exact id
  | some q => exact h q (lastO_mem hq)
structure RamTo (l : List ObjI) (a : Int) : Prop where
  each : ∀ o ∈ l, o.bank = -1 ∧ 16384 ≤ o.addr ∧ 1 ≤ o.size ∧ o.size ≤ 50 ∧ o.addr + o.size ≤ a
  chain : chainO none l
theorem ramTo_nil (a : Int) : RamTo [] a := ⟨(fun _ h => nomatch h), trivial⟩
theorem ramTo_step {l : List ObjI} {a size gap : Int} (h : RamTo l a) (h0 : 16384 ≤ a) (h1 : 1 ≤ size) (h2 : size ≤ 50) (h3 : 0 ≤ gap) : RamTo (l ++ [⟨-1, a, size⟩]) (a + size + gap) := by
  refine ⟨?_, chainO_snoc l _ none h.chain (lateO_not fun q hq => ?_)⟩
  · intro o ho
    rcases List.mem_append.1 ho with ho | ho
    · obtain ⟨x1, x2, x3, x4, x5⟩ := h.each o ho
      exact ⟨x1, x2, x3, x4, by omega⟩
    · simp at ho; subst ho
      exact ⟨rfl, h0, h1, h2, by show a + size ≤ a + size + gap; omega⟩
  · obtain ⟨x1, x2, x3, x4, x5⟩ := h.each q hq
    unfold ObjI.after
    show ¬ ((-1 : Int) < q.bank ∨ q.bank = -1 ∧ a < q.addr + q.size)
    omega
structure Ready (nb b : Nat) (ram : List ObjI) (I : Img) : Prop where
  drawn : DrawnTo nb b ram I
  done : DoneR I
  objs : ∀ o ∈ I.data, o.bank < b
  rels : ∀ r ∈ I.relocs, r.bank < b
theorem ready_start {ram : List ObjI} {a e v : Int} (nb : Nat) (h : RamTo ram a) (ha : a ≤ 24576) (e0 : 0 ≤ e) (e1 : e < 4096) (v0 : 0 ≤ v) (v1 : v < 4096) : Ready nb 0 ram ⟨[], e, v, ram, []⟩ := by
  refine ⟨⟨⟨e0, e1⟩, ⟨v0, v1⟩, (fun _ h => nomatch h), rfl, ⟨[], (List.append_nil _).symm⟩, ?_, ?_, h.chain, (fun _ h => nomatch h), trivial⟩, (fun _ h => nomatch h), ?_, (fun _ h => nomatch h)⟩
  · intro o ho
    obtain ⟨x1, x2, x3, x4, x5⟩ := h.each o ho
    exact ⟨x1, x2, x3, x4, by omega⟩
  · intro o ho
    obtain ⟨x1, x2, x3, x4, x5⟩ := h.each o ho
    refine ⟨?_, ⟨by omega, by omega⟩, ⟨by omega, by omega⟩, ⟨by omega, by omega⟩⟩
    unfold ObjI.bad0; omega
  · intro o ho
    obtain ⟨x1, _⟩ := h.each o ho
    omega
structure InBank (nb b : Nat) (ram : List ObjI) (I : Img) (F : Nat → Int) (off : Int) : Prop where
  drawn : DrawnTo nb b ram I
  done : DoneR I
  objs : ∀ o ∈ I.data, o.bank < b
  rels : ∀ r ∈ I.relocs, r.bank ≤ b ∧ (r.bank = b → r.off + 2 ≤ off ∧ hit I.data (F r.off.toNat + F (r.off.toNat + 1) * 256))
  fbd : ∀ j, 0 ≤ F j ∧ F j < 256
theorem Ready.enter {nb b : Nat} {ram : List ObjI} {I : Img} (h : Ready nb b ram I) (F : Nat → Int) (off : Int) (hF : ∀ j, 0 ≤ F j ∧ F j < 256) : InBank nb b ram I F off :=
  ⟨h.drawn, h.done, h.objs, fun r hr => ⟨by have := h.rels r hr; omega, fun e => by have := h.rels r hr; omega⟩, hF⟩
theorem InBank.push {nb b : Nat} {ram : List ObjI} {I : Img} {F : Nat → Int} {off v gap : Int} (h : InBank nb b ram I F off) (hb : b < nb) (o0 : 0 ≤ off) (o1 : off ≤ 4094) (hv : hit I.data v) (v0 : 0 ≤ v) (v1 : v < 65536) (hg : 0 ≤ gap) :
    InBank nb b ram { I with relocs := I.relocs ++ [⟨b, off⟩] } (setF (setF F off.toNat (v % 256)) (off.toNat + 1) (v / 256 % 256)) (off + 2 + gap) := by
  have hd := h.drawn
  refine ⟨⟨hd.entry, hd.vector, hd.full, hd.count, hd.data, hd.ram, hd.good, hd.chain, ?_, ?_⟩, ?_, h.objs, ?_, setF_bd (setF_bd h.fbd _ _ (by omega) (by omega)) _ _ (by omega) (by omega)⟩
  · intro r hr
    rcases List.mem_append.1 hr with hr | hr
    · exact hd.rgood r hr
    · simp at hr; subst hr
      exact ⟨by show (0 : Int) ≤ (b : Int); omega, by show (b : Int) < nb; omega, o0, o1⟩
  · refine chainR_snoc I.relocs _ none hd.rchain (lateR_not fun q hq => ?_)
    obtain ⟨x1, x2⟩ := h.rels q hq
    unfold RelI.after
    show ¬ ((b : Int) < q.bank ∨ q.bank = b ∧ off < q.off + 2)
    rintro (hh | ⟨hh, hh2⟩)
    · omega
    · have := (x2 hh).1; omega
  · intro r hr hlt
    rcases List.mem_append.1 hr with hr | hr
    · exact h.done r hr hlt
    · simp at hr; subst hr
      have hc := hd.count
      have : (b : Int) < (I.banks.length : Int) := hlt
      omega
  · intro r hr
    rcases List.mem_append.1 hr with hr | hr
    · obtain ⟨x1, x2⟩ := h.rels r hr
      obtain ⟨_, _, r0, _⟩ := hd.rgood r hr
      refine ⟨x1, fun e => ?_⟩
      obtain ⟨y1, y2⟩ := x2 e
      refine ⟨by omega, ?_⟩
      have n1 : ¬ r.off.toNat = off.toNat + 1 := by omega
      have n2 : ¬ r.off.toNat = off.toNat := by omega
      have n3 : ¬ r.off.toNat + 1 = off.toNat + 1 := by omega
      have n4 : ¬ r.off.toNat + 1 = off.toNat := by omega
      show hit I.data (setF (setF F off.toNat (v % 256)) (off.toNat + 1) (v / 256 % 256) r.off.toNat + setF (setF F off.toNat (v % 256)) (off.toNat + 1) (v / 256 % 256) (r.off.toNat + 1) * 256)
      unfold setF
      rw [if_neg n1, if_neg n2, if_neg n3, if_neg n4]
      exact y2
    · simp at hr; subst hr
      refine ⟨Int.le_refl _, fun _ => ⟨by show off + 2 ≤ off + 2 + gap; omega, ?_⟩⟩
      show hit I.data (setF (setF F off.toNat (v % 256)) (off.toNat + 1) (v / 256 % 256) off.toNat + setF (setF F off.toNat (v % 256)) (off.toNat + 1) (v / 256 % 256) (off.toNat + 1) * 256)
      unfold setF
      rw [if_neg (by omega), if_pos rfl, if_pos rfl]
      have e : v % 256 + v / 256 % 256 * 256 = v := by omega
      rw [e]; exact hv
structure InObj (nb b : Nat) (ram : List ObjI) (I : Img) (e : Int) : Prop where
  drawn : DrawnTo nb (b + 1) ram I
  done : DoneR I
  objs : ∀ o ∈ I.data, o.bank ≤ b ∧ (o.bank = b → o.addr + o.size ≤ e)
  rels : ∀ r ∈ I.relocs, r.bank ≤ b
theorem InBank.close {nb b : Nat} {ram : List ObjI} {I : Img} {F : Nat → Int} {off : Int} (h : InBank nb b ram I F off) (hb : b < nb) : InObj nb b ram { I with banks := I.banks ++ [rowS F] } 3000 := by
  have hd := h.drawn
  have hc := hd.count
  refine ⟨⟨hd.entry, hd.vector, ?_, ?_, hd.data, hd.ram, hd.good, hd.chain, hd.rgood, hd.rchain⟩, ?_, ?_, fun r hr => (h.rels r hr).1⟩
  · intro s hs
    rcases List.mem_append.1 hs with hs | hs
    · exact hd.full s hs
    · simp at hs; subst hs; exact rowS_size F
  · show (I.banks ++ [rowS F]).length = b + 1
    simp [hc]
  · intro r hr hlt
    obtain ⟨x1, x2⟩ := h.rels r hr
    obtain ⟨g0, g1, g2, g3⟩ := hd.rgood r hr
    show RelHit (I.banks ++ [rowS F]) I.data r
    by_cases e : r.bank = b
    · unfold RelHit
      rw [relWord_at, bankOf_new I.banks (rowS F) r (by rw [hc]; exact e), rowS_word F h.fbd _ (by omega)]
      exact (x2 e).2
    · exact relHit_bank (h.done r hr (by omega)) _ (by omega)
  · intro o ho
    have := h.objs o ho
    exact ⟨by omega, fun e => by omega⟩
theorem InObj.push {nb b : Nat} {ram : List ObjI} {I : Img} {e size gap : Int} (h : InObj nb b ram I e) (hb : b < nb) (hn : nb ≤ 3) (e0 : 0 ≤ e) (s0 : 1 ≤ size) (e1 : e + size ≤ 4096) (hg : 0 ≤ gap) :
    InObj nb b ram { I with data := I.data ++ [⟨b, e, size⟩] } (e + size + gap) := by
  have hd := h.drawn
  refine ⟨⟨hd.entry, hd.vector, hd.full, hd.count, ?_, hd.ram, ?_, ?_, hd.rgood, hd.rchain⟩, ?_, ?_, h.rels⟩
  · obtain ⟨rest, hr⟩ := hd.data
    exact ⟨rest ++ [⟨b, e, size⟩], by show I.data ++ _ = _; rw [hr, List.append_assoc]⟩
  · intro o ho
    rcases List.mem_append.1 ho with ho | ho
    · exact hd.good o ho
    · simp at ho; subst ho
      refine ⟨?_, ⟨by show -9223372036854775808 ≤ (b : Int); omega, ?_⟩, ⟨e0, by show e < 65536; omega⟩, ⟨by show 0 ≤ size; omega, by show size < 65536; omega⟩⟩
      · unfold ObjI.bad0
        show ¬ (size = 0 ∨ (b : Int) < -1 ∨ (nb : Int) ≤ b ∨ ((b : Int) < 0 ∧ (e < 16384 ∨ 24576 < e + size)) ∨ (0 ≤ (b : Int) ∧ 4096 < e + size))
        omega
      · show (b : Int) ≤ 9223372036854775807
        omega
  · refine chainO_snoc I.data _ none hd.chain (lateO_not fun q hq => ?_)
    obtain ⟨x1, x2⟩ := h.objs q hq
    unfold ObjI.after
    show ¬ ((b : Int) < q.bank ∨ q.bank = b ∧ e < q.addr + q.size)
    rintro (hh | ⟨hh, hh2⟩)
    · omega
    · have := x2 hh; omega
  · intro r hr hlt
    exact relHit_data (h.done r hr hlt) _
  · intro o ho
    rcases List.mem_append.1 ho with ho | ho
    · obtain ⟨x1, x2⟩ := h.objs o ho
      exact ⟨x1, fun he => by have := x2 he; omega⟩
    · simp at ho; subst ho
      exact ⟨Int.le_refl _, fun _ => by show e + size ≤ e + size + gap; omega⟩
theorem InObj.leave {nb b : Nat} {ram : List ObjI} {I : Img} {e : Int} (h : InObj nb b ram I e) : Ready nb (b + 1) ram I :=
  ⟨h.drawn, h.done, fun o ho => by have := (h.objs o ho).1; omega, fun r hr => by have := h.rels r hr; omega⟩
theorem Ready.valid {nb : Nat} {ram : List ObjI} {I : Img} (h : Ready nb nb ram I) (h1 : 1 ≤ nb) (h2 : nb ≤ 3) (l2 : I.data.length ≤ 512) (l3 : I.relocs.length ≤ 20000) : checkI I = 0 := drawn_valid h.drawn h.done h1 h2 l2 l3
theorem ram_hit {nb b : Nat} {ram : List ObjI} {I : Img} (h : DrawnTo nb b ram I) (o : ObjI) (k : Nat) (hk : I.data[k]? = some o) (hl : k < ram.length) (d : Int) (d0 : 0 ≤ d) (d1 : d < o.size) : hit I.data (o.addr + d) ∧ 0 ≤ o.addr + d ∧ o.addr + d < 65536 ∧ 1 ≤ o.size ∧ o.size ≤ 50 ∧ o.bank = -1 ∧ 16384 ≤ o.addr ∧ o.addr ≤ 24576 := by
  obtain ⟨rest, hr⟩ := h.data
  rw [hr, List.getElem?_append_left hl] at hk
  have hm := List.mem_of_getElem? hk
  obtain ⟨x1, x2, x3, x4, x5⟩ := h.ram o hm
  refine ⟨⟨o, by rw [hr]; exact List.mem_append_left _ hm, ?_⟩, by omega, by omega, x3, x4, x1, x2, by omega⟩
  unfold ObjI.has; rw [decide_eq_true]; exact ⟨x1, by omega, by omega⟩
end Go.Proofs.Ytgdiaaoekkdibaa
