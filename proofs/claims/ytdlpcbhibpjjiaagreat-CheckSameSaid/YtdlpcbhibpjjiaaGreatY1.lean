/- check.Same: two types, cell by cell. -/
import Derived.Test.YtdlpcbhibpjjiaaGreatQ1
import Derived.Test.YtdlpcbhibpjjiaaGreatA8
import Derived.LoopN
import Derived.BigRegion
import Derived.RegionTactic
import Derived.Test.YtdlpcbhibpjjiaaGreatS2
namespace Go.Ab
set_option maxRecDepth 8000
open Go.Proofs Go.RowKit Go.Shelf
set_option linter.unusedVariables false
set_option linter.unusedSimpArgs false
/-- A frozen slice of elements of four cells: where they lie. -/
def Four (w : World) (O : Bl) (l : List (List PV)) (ad : Option Addr) (f : Nat → Nat → Value) : Prop :=
  l = [] ∨ ∃ b base, ad = some ⟨b, base, none⟩ ∧ b < w.heap.size ∧ ¬ O b ∧ (∀ i q, i < l.length → q < 4 → w.cell? ⟨b, base + i * 4 + q, none⟩ = some (f i q)) ∧
    (∀ (i : Nat) (c : List PV), l[i]? = some c → PRel w O (.agg c) (.agg #[f i 0, f i 1, f i 2, f i 3])) ∧ ∀ i q, (f i q).oneCell' = true
theorem four_of {w : World} {O : Bl} {l : List (List PV)} {x : Value} (h : PRel w O (.fz l) x) (h4 : ∀ c ∈ l, c.length = 4) : ∃ ad cap f, x = .slice ad l.length cap ∧ Four w O l ad f := by
  obtain ⟨ad, cap, rfl, hcap, hl⟩ := h.fz_inv
  rcases hl with rfl | ⟨b, base, s, rfl, hF⟩
  · exact ⟨ad, cap, fun _ _ => .bool false, rfl, .inl rfl⟩
  · by_cases hne : l = []
    · exact ⟨_, cap, fun _ _ => .bool false, rfl, .inl hne⟩
    · have hs : s = 4 := by
        cases l with
        | nil => exact absurd rfl hne
        | cons c l =>
          have h1 := hF.len 0 c rfl
          have h2 := h4 c (by simp)
          omega
      subst hs
      have key : ∀ i q, i < l.length → q < 4 → ∃ x, w.cell? ⟨b, base + i * 4 + q, none⟩ = some x ∧ CellV x ∧ ∀ c v, l[i]? = some c → c[q]? = some v → PRel w O v x := by
        intro i q hi hq
        have hL := List.getElem?_eq_getElem hi
        have hcl := hF.len i _ hL
        have hc := List.getElem?_eq_getElem (show q < l[i].length by omega)
        obtain ⟨x, h1, h2, h3⟩ := hF.at_ i q _ _ hL hc
        refine ⟨x, h1, h2, fun c v e1 e2 => ?_⟩
        rw [hL] at e1
        cases e1
        rw [hc] at e2
        cases e2
        exact h3
      refine ⟨_, cap, fun i q => if i < l.length ∧ q < 4 then (w.cell? ⟨b, base + i * 4 + q, none⟩).getD (.bool false) else .bool false, rfl, .inr ⟨b, base, rfl, hF.lt, hF.own, fun i q hi hq => ?_, fun i c hc => ?_, fun i q => ?_⟩⟩
      · obtain ⟨x, k1, k2, k3⟩ := key i q hi hq
        show _ = some (if i < l.length ∧ q < 4 then _ else _)
        rw [if_pos (And.intro hi hq), k1]
        rfl
      · have hi := (List.getElem?_eq_some_iff.1 hc).1
        have hcl := h4 c (List.mem_of_getElem? hc)
        have val : ∀ q, q < 4 → ∃ x, (if i < l.length ∧ q < 4 then (w.cell? ⟨b, base + i * 4 + q, none⟩).getD (.bool false) else .bool false) = x ∧ CellV x ∧ ∀ v, c[q]? = some v → PRel w O v x := by
          intro q hq
          obtain ⟨x, k1, k2, k3⟩ := key i q hi hq
          refine ⟨x, ?_, k2, fun v hv => k3 c v hc hv⟩
          rw [if_pos (And.intro hi hq), k1]
          rfl
        refine .agg c _ hcl (fun j x hx => ?_) fun j p x hp hx => ?_
        · match j, hx with
          | 0, hx => obtain ⟨y, e, k, _⟩ := val 0 (by decide); cases hx; show CellV (if i < l.length ∧ 0 < 4 then _ else _); rw [e]; exact k
          | 1, hx => obtain ⟨y, e, k, _⟩ := val 1 (by decide); cases hx; show CellV (if i < l.length ∧ 1 < 4 then _ else _); rw [e]; exact k
          | 2, hx => obtain ⟨y, e, k, _⟩ := val 2 (by decide); cases hx; show CellV (if i < l.length ∧ 2 < 4 then _ else _); rw [e]; exact k
          | 3, hx => obtain ⟨y, e, k, _⟩ := val 3 (by decide); cases hx; show CellV (if i < l.length ∧ 3 < 4 then _ else _); rw [e]; exact k
        · match j, hp, hx with
          | 0, hp, hx => obtain ⟨y, e, _, k⟩ := val 0 (by decide); cases hx; show PRel w O p (if i < l.length ∧ 0 < 4 then _ else _); rw [e]; exact k p hp
          | 1, hp, hx => obtain ⟨y, e, _, k⟩ := val 1 (by decide); cases hx; show PRel w O p (if i < l.length ∧ 1 < 4 then _ else _); rw [e]; exact k p hp
          | 2, hp, hx => obtain ⟨y, e, _, k⟩ := val 2 (by decide); cases hx; show PRel w O p (if i < l.length ∧ 2 < 4 then _ else _); rw [e]; exact k p hp
          | 3, hp, hx => obtain ⟨y, e, _, k⟩ := val 3 (by decide); cases hx; show PRel w O p (if i < l.length ∧ 3 < 4 then _ else _); rw [e]; exact k p hp
      · show Value.oneCell' (if _ then _ else _) = true
        split
        · rename_i h
          obtain ⟨x, k1, k2, _⟩ := key i q h.1 h.2
          rw [k1]
          exact k2
        · rfl
theorem Four.ev {w w' : World} {O : Bl} {l : List (List PV)} {ad : Option Addr} {f : Nat → Nat → Value} (h : Four w O l ad f) (hE : Ev (fun _ => False) w w') : Four w' O l ad f := by
  rcases h with h | ⟨b, base, h1, h2, h3, h4, h5, h6⟩
  · exact .inl h
  · exact .inr ⟨b, base, h1, Nat.lt_of_lt_of_le h2 hE.size, h3, fun i q hi hq => hE.cell (h4 i q hi hq) fun h => h, fun i c hc => (h5 i c hc).mono (hE.mono fun _ h => h.elim) fun _ _ h => h, h6⟩
/-- What Same answers. -/
def Sm (P : Prop) (w : World) (e : Ending) (w' : World) : Prop := ∃ r : Bool, e = .returned (.bool r) ∧ (r = true ↔ P) ∧ Ev (fun _ => False) w w'
set_option maxRecDepth 100000 in
set_option maxHeartbeats 2000000 in
theorem c55 (O : Bl) (l m : List (List PV)) (hlen : l.length ≤ 1000000000) (hlm : m.length ≤ 1000000000) (H25 : Hid (∀ (i : Nat) (t u : List PV), l[i]? = some t → m[i]? = some u → ∀ (w : World) (x y : Value), PRel w O (.agg t) x → PRel w O (.agg u) y → Calls Tryz.prog 25 #[x, y] w (Sm (t = u) w)))
    (w : World) (ad1 ad2 : Option Addr) (cap1 cap2 : Nat) (f1 f2 : Nat → Nat → Value) (h1 : Four w O l ad1 f1) (h2 : Four w O m ad2 f2) :
    Calls Tryz.prog 55 #[.slice ad1 l.length cap1, .slice ad2 m.length cap2, .func (.func 25) #[] #[]] w (Sm (l = m) w) := by
  have H1 := Lib.hid h1
  have H2 := Lib.hid h2
  clear h1 h2
  go_enter Tryz.func55, Tryz.ntmps55
  by_cases hne : l.length = m.length
  rotate_left
  · have hne' : ¬ (l.length : Int) = (m.length : Int) := by omega
    have hR : Sm (l = m) w (.returned (.bool false)) w := ⟨false, rfl, by constructor; (intro h; cases h); (intro h; exact absurd (by rw [h]) hne), .refl _ _⟩
    have HR := Lib.hid hR
    clear hR
    go_wp2
    go_ret
    exact HR.out
  · rw [← hne]
    rw [← hne] at hlm
    have HN := Lib.hid hne
    clear hne
    generalize hL : l.length = L at *
    have HL := Lib.hid hL
    clear hL hlm
    go_wp2
    go_loopw [17] (fun i wr => ∃ k : Nat, k ≤ L ∧ i = .int .i64 k ∧ l.take k = m.take k ∧ Ev (fun _ => False) w wr) (fun i _ => ((L : Int) - intOf i).toNat)
    case atStart => exact ⟨0, Nat.zero_le _, rfl, by simp, .refl _ _⟩
    case round =>
      obtain ⟨k, hk, rfl, htk, hE⟩ := hrel
      by_cases hlt : k < L
      · have hl := HL.out
        have hm := HN.out
        have kl : k < l.length := by omega
        have km : k < m.length := by omega
        rcases H1.out.ev hE with h | ⟨b1, base1, rfl, hb1, _, hc1, hr1, ho1⟩
        · rw [h] at hl; simp at hl; omega
        rcases H2.out.ev hE with h | ⟨b2, base2, rfl, hb2, _, hc2, hr2, ho2⟩
        · rw [h] at hm; simp at hm; omega
        have a0 : wr.cell? ⟨b1, base1 + k * 4, none⟩ = some (f1 k 0) := hc1 k 0 kl (by decide)
        have a1 : wr.cell? ⟨b1, base1 + k * 4 + 1, none⟩ = some (f1 k 1) := hc1 k 1 kl (by decide)
        have a2 : wr.cell? ⟨b1, base1 + k * 4 + 2, none⟩ = some (f1 k 2) := hc1 k 2 kl (by decide)
        have a3 : wr.cell? ⟨b1, base1 + k * 4 + 3, none⟩ = some (f1 k 3) := hc1 k 3 kl (by decide)
        have c0 : wr.cell? ⟨b2, base2 + k * 4, none⟩ = some (f2 k 0) := hc2 k 0 km (by decide)
        have c1 : wr.cell? ⟨b2, base2 + k * 4 + 1, none⟩ = some (f2 k 1) := hc2 k 1 km (by decide)
        have c2 : wr.cell? ⟨b2, base2 + k * 4 + 2, none⟩ = some (f2 k 2) := hc2 k 2 km (by decide)
        have c3 : wr.cell? ⟨b2, base2 + k * 4 + 3, none⟩ = some (f2 k 3) := hc2 k 3 km (by decide)
        have o10 := fun (w : World) (a : Addr) => run_store Tryz.prog w a (f1 k 0) .plain (ho1 k 0)
        have o11 := fun (w : World) (a : Addr) => run_store Tryz.prog w a (f1 k 1) .plain (ho1 k 1)
        have o12 := fun (w : World) (a : Addr) => run_store Tryz.prog w a (f1 k 2) .plain (ho1 k 2)
        have o13 := fun (w : World) (a : Addr) => run_store Tryz.prog w a (f1 k 3) .plain (ho1 k 3)
        have o20 := fun (w : World) (a : Addr) => run_store Tryz.prog w a (f2 k 0) .plain (ho2 k 0)
        have o21 := fun (w : World) (a : Addr) => run_store Tryz.prog w a (f2 k 1) .plain (ho2 k 1)
        have o22 := fun (w : World) (a : Addr) => run_store Tryz.prog w a (f2 k 2) .plain (ho2 k 2)
        have o23 := fun (w : World) (a : Addr) => run_store Tryz.prog w a (f2 k 3) .plain (ho2 k 3)
        have hC : ∀ W, Ev (fun _ => False) wr W → Calls Tryz.prog 25 #[.agg #[f1 k 0, f1 k 1, f1 k 2, f1 k 3], .agg #[f2 k 0, f2 k 1, f2 k 2, f2 k 3]] W (Sm (l[k] = m[k]) W) := fun W hEW =>
          H25.out k _ _ (List.getElem?_eq_getElem kl) (List.getElem?_eq_getElem km) W _ _ ((hr1 k _ (List.getElem?_eq_getElem kl)).mono (hEW.mono fun _ h => h.elim) fun _ _ h => h) ((hr2 k _ (List.getElem?_eq_getElem km)).mono (hEW.mono fun _ h => h.elim) fun _ _ h => h)
        have HC := Lib.hid hC
        have HT1 : Hid (l.take (k + 1) = l.take k ++ [l[k]]) := Lib.hid (by rw [List.take_add_one, List.getElem?_eq_getElem kl]; rfl)
        have HT2 : Hid (m.take (k + 1) = m.take k ++ [m[k]]) := Lib.hid (by rw [List.take_add_one, List.getElem?_eq_getElem km]; rfl)
        have HQ : Hid (l[k] ≠ m[k] → l ≠ m) := Lib.hid (fun h e => by subst e; exact h rfl)
        generalize l[k] = lk at *
        generalize m[k] = mk at *
        have HH := Lib.hid (And.intro htk hE)
        clear htk hE hr1 hr2 hc1 hc2 ho1 ho2 hl hm kl km hC
        go_wp2_with (go_at_call 25; refine (HC.out _ ((alloc_ev _ _).trans (alloc_ev _ _) fun _ _ h => h)).mono ?_; rintro e W2 ⟨(_ | _), rfl, hr, hE2⟩)
        · have hEW : Ev (fun _ => False) w W2 := HH.out.2.trans (((alloc_ev _ _).trans (alloc_ev _ _) fun _ _ h => h).trans hE2 fun _ _ h => h) fun _ _ h => h
          have hn : lk ≠ mk := fun e => by simp [e] at hr
          go_ret
          exact ⟨false, rfl, by constructor; (intro h; cases h); (intro h; exact absurd h (HQ.out hn)), hEW⟩
        · have hEW : Ev (fun _ => False) w W2 := HH.out.2.trans (((alloc_ev _ _).trans (alloc_ev _ _) fun _ _ h => h).trans hE2 fun _ _ h => h) fun _ _ h => h
          have hkm : lk = mk := by simpa using hr
          exact ⟨⟨k + 1, hlt, by simp, by rw [HT1.out, HT2.out, HH.out.1, hkm], hEW⟩, by simp [intOf]; omega⟩
      · obtain rfl : k = L := by omega
        have hl := HL.out
        have hm := HN.out
        have hlm : l = m := by
          have e1 : l.take k = l := List.take_of_length_le (by omega)
          have e2 : m.take k = m := List.take_of_length_le (by omega)
          rw [e1, e2] at htk
          exact htk
        have HE := Lib.hid hE
        have HM := Lib.hid hlm
        clear hE hlm htk hl hm
        go_wp2
        go_ret
        exact ⟨true, rfl, by simp [HM.out], HE.out⟩
end Go.Ab
namespace Go.Ab
set_option maxRecDepth 8000
open Go.Proofs Go.RowKit Go.Shelf
set_option linter.unusedVariables false
set_option linter.unusedSimpArgs false
def tyV (k : Int) (s : List Nat) (n : Int) (l : List (List PV)) : List PV := [.int .i64 k, .str s, .int .i64 n, .fz l]
theorem bytes_inj {a b : ByteArray} (h : a.data.toList.map UInt8.toNat = b.data.toList.map UInt8.toNat) : a = b := by
  obtain ⟨⟨a⟩⟩ := a
  obtain ⟨⟨b⟩⟩ := b
  have : a = b := List.map_inj_right (fun x y h => UInt8.toNat_inj.1 h) |>.1 h
  rw [this]
theorem tl_inj {a b : ByteArray} (h : a.toList = b.toList) : a = b := by
  rw [Lib.toList_data, Lib.toList_data] at h
  exact bytes_inj (by rw [h])
set_option maxRecDepth 100000 in
set_option maxHeartbeats 2000000 in
theorem w25' (k1 n1 k2 n2 : Int) (b1 b2 : ByteArray) (p1 p2 : Option Addr) (q1 q2 r1 r2 : Nat) (Q : Prop) (w : World) (R : Ending → World → Prop)
    (H : Hid (∀ w', Ev (fun _ => False) w w' → Calls Tryz.prog 55 #[.slice p1 q1 r1, .slice p2 q2 r2, .func (.func 25) #[] #[]] w' (Sm Q w')))
    (HNo : Hid (∀ W, Ev (fun _ => False) w W → ¬ (k1 = k2 ∧ b1 = b2 ∧ n1 = n2) → R (.returned (.bool false)) W))
    (HYes : Hid (∀ (r : Bool) W, Ev (fun _ => False) w W → k1 = k2 ∧ b1 = b2 ∧ n1 = n2 → (r = true ↔ Q) → R (.returned (.bool r)) W)) :
    Calls Tryz.prog 25 #[.agg #[.int .i64 k1, .string b1, .int .i64 n1, .slice p1 q1 r1], .agg #[.int .i64 k2, .string b2, .int .i64 n2, .slice p2 q2 r2]] w R := by
  have HE := Lib.hid (show ∀ o1 o2, Ev (fun _ => False) w ((w.alloc o1).alloc o2) from fun o1 o2 => (alloc_ev _ _).trans (alloc_ev _ _) fun _ _ h => h)
  go_enter Tryz.func25, Tryz.ntmps25
  by_cases hk : k1 = k2
  · by_cases hb : b1 = b2
    · by_cases hn : n1 = n2
      · have HX := Lib.hid (fun r W hE => HYes.out r W hE ⟨hk, hb, hn⟩)
        clear HNo HYes
        subst hk
        subst hb
        subst hn
        go_wp2_with (go_at_call 55; refine (H.out _ (HE.out _ _)).mono ?_; rintro e W2 ⟨r, rfl, hr, hE3⟩; have HR := Lib.hid (And.intro hr hE3); clear hr hE3)
        exact HX.out r _ ((HE.out _ _).trans HR.out.2 fun _ _ h => h) HR.out.1
      · have HX := Lib.hid (fun W hE => HNo.out W hE fun h => hn h.2.2)
        clear HNo HYes
        subst hk
        subst hb
        go_wp2
        exact HX.out _ (HE.out _ _)
    · have HX := Lib.hid (fun W hE => HNo.out W hE fun h => hb h.2.1)
      clear HNo HYes
      subst hk
      have hb' : ¬ b1.toList = b2.toList := fun h => hb (tl_inj h)
      clear hb
      go_wp2
      exact HX.out _ (HE.out _ _)
  · have HX := Lib.hid (fun W hE => HNo.out W hE fun h => hk h.1)
    clear HNo HYes
    go_wp2
    exact HX.out _ (HE.out _ _)
/-- Types up to a depth: how check.Same answers. -/
inductive Ty : Nat → List PV → Prop
  | mk (d : Nat) (k n : Int) (s : List Nat) (l : List (List PV)) (hl : l.length ≤ 1000000000) (h : ∀ c ∈ l, Ty d c) : Ty (d + 1) (tyV k s n l)
theorem Ty.len {d : Nat} {c : List PV} (h : Ty d c) : c.length = 4 := by cases h; rfl
theorem same_ok (O : Bl) : ∀ (d : Nat) (t u : List PV), Ty d t → Ty d u → ∀ (w : World) (x y : Value), PRel w O (.agg t) x → PRel w O (.agg u) y → Calls Tryz.prog 25 #[x, y] w (Sm (t = u) w)
  | 0, t, u, ht, _, _, _, _, _, _ => by cases ht
  | d + 1, _, _, .mk _ k1 n1 s1 l hl h1, .mk _ k2 n2 s2 m hm h2, w, x, y, hx, hy => by
    have ih := same_ok O d
    have open_ : ∀ {k n : Int} {s : List Nat} {l : List (List PV)} {x : Value}, PRel w O (.agg (tyV k s n l)) x → ∃ b sl, x = .agg #[.int .i64 k, .string b, .int .i64 n, sl] ∧ b.data.toList.map UInt8.toNat = s ∧ PRel w O (.fz l) sl := by
      intro k n s l x h
      cases h with
      | agg _ vs hl hv hh =>
        match vs, hl, hh with
        | [y1, y2, y3, y4], _, hh =>
          have e1 := hh 0 _ y1 rfl rfl
          have e2 := hh 1 _ y2 rfl rfl
          have e3 := hh 2 _ y3 rfl rfl
          have e4 := hh 3 _ y4 rfl rfl
          cases e1
          cases e3
          cases e2 with
          | str _ b hb => exact ⟨b, y4, rfl, hb, e4⟩
    obtain ⟨b1, sl1, rfl, hb1, hs1⟩ := open_ hx
    obtain ⟨b2, sl2, rfl, hb2, hs2⟩ := open_ hy
    obtain ⟨ad1, cap1, f1, rfl, hF1⟩ := four_of hs1 (fun c hc => (h1 c hc).len)
    obtain ⟨ad2, cap2, f2, rfl, hF2⟩ := four_of hs2 (fun c hc => (h2 c hc).len)
    have hbb : b1 = b2 ↔ s1 = s2 := by
      subst hb1
      subst hb2
      exact ⟨fun h => by rw [h], fun h => bytes_inj h⟩
    refine w25' k1 n1 k2 n2 b1 b2 ad1 ad2 _ _ cap1 cap2 (l = m) w _ (Lib.hid fun w' hE => c55 O l m hl hm (Lib.hid fun i t u h3 h4 => ih t u (h1 t (List.mem_of_getElem? h3)) (h2 u (List.mem_of_getElem? h4))) w' ad1 ad2 cap1 cap2 f1 f2 (hF1.ev hE) (hF2.ev hE)) (Lib.hid fun W hE hn => ?_) (Lib.hid fun r W hE hyes hr => ?_)
    · refine ⟨false, rfl, ?_, hE⟩
      constructor
      · intro h; cases h
      · intro h
        simp only [tyV, List.cons.injEq, PV.int.injEq, PV.str.injEq, PV.fz.injEq, true_and, and_true] at h
        exact absurd ⟨h.1, hbb.2 h.2.1, h.2.2.1⟩ hn
    · refine ⟨r, rfl, ?_, hE⟩
      rw [hr]
      simp only [tyV, List.cons.injEq, PV.int.injEq, PV.str.injEq, PV.fz.injEq, true_and, and_true]
      exact ⟨fun h => ⟨hyes.1, hbb.1 hyes.2.1, hyes.2.2, h⟩, fun h => h.2.2.2⟩
end Go.Ab
namespace Go.Ab
set_option maxRecDepth 8000
open Go.Proofs Go.RowKit Go.Shelf
set_option linter.unusedVariables false
set_option linter.unusedSimpArgs false
def G0 : Gm := ⟨fun _ => ⟨0, 0, 0⟩, fun _ => False⟩
theorem st_nil (w : World) : St [] (Lt 0) G0 w where
  lt id o h := by cases h.1
  inj id o id' o' h := by cases h.1
  rel id o h := by cases h.1
  refs id o h := by cases h.1
  apart id o h := by cases h.1
  ltX b h := h.elim
  wf id o h := by cases h
theorem run_nil {f : Nat} {vs : List AV} {v : AV} {k : Nat} (h : RunOk Tryz.prog f vs ⟨0, []⟩ (.ret v) ⟨k, []⟩) (w : World) (xs : List Value) (hx : RL w (Own [] G0) G0 (Lt 0) vs xs) :
    Calls Tryz.prog f ⟨xs⟩ w fun e w' => ∃ x, e = .returned x ∧ Ev (fun _ => False) w w' ∧ ∃ O G n, R w' O G n v x := by
  obtain ⟨_, hC⟩ := h G0 w xs (st_nil w) hx
  refine hC.mono fun e w' => ?_
  rintro ⟨G', hP, _, x, rfl, hr⟩
  refine ⟨x, rfl, hP.ev.mono fun b hb => ?_, _, _, _, hr⟩
  obtain ⟨id, o, h, _⟩ := hb
  cases h.1
/-- The examples hold. -/
theorem sanity_any (w : World) : Calls Tryz.prog 11 #[] w fun e w' => e = .returned (.bool true) ∧ Ev (fun _ => False) w w' := by
  refine (run_nil sanity_ok w [] .nil).mono fun e w' => ?_
  rintro ⟨x, rfl, hE, O, G, n, hr, _⟩
  cases hr with
  | p _ _ h => cases h; exact ⟨rfl, hE⟩
theorem tmod_small (x : Int) (m : Nat) (hm : 0 < m) : -(m : Int) < x.tmod m ∧ x.tmod m < m := ⟨Int.lt_tmod_of_pos x (by omega), Int.tmod_lt_of_pos x (by omega)⟩
theorem mod_any (x : Int) (m : Nat) (hm : m = 4 ∨ m = 5) (w : World) :
    Calls Tryz.prog 23 #[.int .i64 x, .int .i64 m] w fun e w' => (∃ r : Nat, r < m ∧ e = .returned (.int .i64 r)) ∧ w' = w := by
  have hb := tmod_small x m (by omega)
  have hw : wrap64 (x.tmod m + m) = x.tmod m + m := by
    have : m ≤ 5 := by omega
    unfold wrap64; omega
  have hr : ∃ r : Nat, r < m ∧ (x.tmod m + m).tmod m = (r : Int) := by
    refine ⟨((x.tmod m + m).tmod m).toNat, ?_, ?_⟩
    · have := tmod_small (x.tmod m + m) m (by omega)
      have h0 : 0 ≤ (x.tmod m + m).tmod m := Int.tmod_nonneg _ (by omega)
      omega
    · have h0 : 0 ≤ (x.tmod m + m).tmod m := Int.tmod_nonneg _ (by omega)
      omega
  obtain ⟨r, hr1, hr2⟩ := hr
  have HH := Lib.hid (And.intro hw (And.intro hr1 hr2))
  clear hb hw hr1 hr2
  go_enter Tryz.func23, Tryz.ntmps23
  rcases hm with rfl | rfl
  · go_wp2
    go_ret
    obtain ⟨h1, h2, h3⟩ := HH.out
    refine ⟨⟨r, h2, ?_⟩, rfl⟩
    have h1 : wrap64 (x.tmod 4 + 4) = x.tmod 4 + 4 := h1
    have h3 : (x.tmod 4 + 4).tmod 4 = (r : Int) := h3
    show Ending.returned (.int .i64 ((wrap64 (x.tmod 4 + 4)).tmod 4)) = _
    rw [h1, h3]
  · go_wp2
    go_ret
    obtain ⟨h1, h2, h3⟩ := HH.out
    refine ⟨⟨r, h2, ?_⟩, rfl⟩
    have h1 : wrap64 (x.tmod 5 + 5) = x.tmod 5 + 5 := h1
    have h3 : (x.tmod 5 + 5).tmod 5 = (r : Int) := h3
    show Ending.returned (.int .i64 ((wrap64 (x.tmod 5 + 5)).tmod 5)) = _
    rw [h1, h3]
noncomputable def dE (n : Nat) : Ent := ⟨24, [.p (.int .i64 (Int.ofNat n))], .p (.str [48 + n]), 0⟩
theorem dig0 : EntOk (dE 0) := ent_ok (fs := []) (tab := []) (by simp) (fuel := 1000) (n := 10) (me := 10) (by kernel_rfl)
theorem dig1 : EntOk (dE 1) := ent_ok (fs := []) (tab := []) (by simp) (fuel := 1000) (n := 10) (me := 10) (by kernel_rfl)
theorem dig2 : EntOk (dE 2) := ent_ok (fs := []) (tab := []) (by simp) (fuel := 1000) (n := 10) (me := 10) (by kernel_rfl)
theorem dig3 : EntOk (dE 3) := ent_ok (fs := []) (tab := []) (by simp) (fuel := 1000) (n := 10) (me := 10) (by kernel_rfl)
theorem digits_any (n : Nat) (hn : n < 4) (w : World) : Calls Tryz.prog 24 #[.int .i64 n] w fun e w' => (∃ b, e = .returned (.string b) ∧ b.data.toList.map UInt8.toNat = [48 + n]) ∧ Ev (fun _ => False) w w' := by
  have key : EntOk (dE n) := by
    match n, hn with
    | 0, _ => exact dig0
    | 1, _ => exact dig1
    | 2, _ => exact dig2
    | 3, _ => exact dig3
  refine (run_nil key w [.int .i64 n] (RL.cons (R.p (.int _ _)) .nil)).mono fun e w' => ?_
  rintro ⟨x, rfl, hE, O, G, n', hr, _⟩
  cases hr with
  | p _ _ h => cases h with
    | str _ b hb => exact ⟨⟨b, rfl, hb⟩, hE⟩
end Go.Ab
