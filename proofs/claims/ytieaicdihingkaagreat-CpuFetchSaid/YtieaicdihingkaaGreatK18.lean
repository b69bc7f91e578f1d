/- fetch: the instruction at PC. -/
import Derived.Test.YtieaicdihingkaaGreatK2
import Derived.Test.YtieaicdihingkaaGreatC8
import Derived.Laws.AppendOwnNone
namespace Go.Proofs.YtieaicdihingkaaGreat
set_option linter.unusedVariables false
set_option linter.unusedSimpArgs false
open Go.RowKit
def fetchA (m : Mach) (k : Nat) : Int := (m.pc + k) % 65536
def fetchB (E : Env) (m : Mach) (k : Nat) : Except (Int × Int) Int :=
 if fetchA m k / 4096 = m.pc / 4096 then (match codeM E m (fetchA m k) with | some c => .ok c | none => .error (2, fetchA m k)) else .error (2, fetchA m k)
def fetchL (E : Env) (m : Mach) : Nat → Except (Int × Int) (List Int)
 | 0 => .ok []
 | k + 1 => match fetchL E m k with
  | .error t => .error t
  | .ok l => match fetchB E m k with
   | .error t => .error t
   | .ok c => .ok (l ++ [c])
def fetchN (c : Int) : Nat := max 1 (sizeI c).toNat
def fetchM (E : Env) (m : Mach) : Except (Int × Int) InsI :=
 if m.pc = 65535 then .error (6, 0) else
 match fetchL E m 1 with
 | .error t => .error t
 | .ok l1 => match fetchL E m (fetchN (l1.headD 0)) with
  | .error t => .error t
  | .ok l => if (decI ⟨(bytesI l).toArray⟩).2 = 0 then .ok (decI ⟨(bytesI l).toArray⟩).1 else .error (3, 0)
theorem fetchL_len {E : Env} {m : Mach} : ∀ (k : Nat) (l : List Int), fetchL E m k = .ok l → l.length = k
 | 0, l, h => by unfold fetchL at h; cases h; rfl
 | k + 1, l, h => by
  unfold fetchL at h
  cases h1 : fetchL E m k with
  | error t => rw [h1] at h; cases h
  | ok l1 =>
   rw [h1] at h
   dsimp only at h
   cases h2 : fetchB E m k with
   | error t => rw [h2] at h; cases h
   | ok c =>
    rw [h2] at h
    cases h
    have := fetchL_len k l1 h1
    simp [this]
theorem fetchL_err {E : Env} {m : Mach} {t : Int × Int} {k : Nat} (h : fetchL E m k = .error t) : ∀ (d : Nat), fetchL E m (k + d) = .error t
 | 0 => h
 | d + 1 => by
  show fetchL E m ((k + d) + 1) = _
  unfold fetchL
  rw [fetchL_err h d]
theorem fetchL_bd {E : Env} {m : Mach} : ∀ (k : Nat) (l : List Int), fetchL E m k = .ok l → ∀ x ∈ l, 0 ≤ x ∧ x < 256
 | 0, l, h => by unfold fetchL at h; cases h; intro x hx; cases hx
 | k + 1, l, h => by
  unfold fetchL at h
  cases h1 : fetchL E m k with
  | error t => rw [h1] at h; cases h
  | ok l1 =>
   rw [h1] at h
   dsimp only at h
   cases h2 : fetchB E m k with
   | error t => rw [h2] at h; cases h
   | ok c =>
    rw [h2] at h
    cases h
    intro x hx
    rcases List.mem_append.1 hx with hx | hx
    ·exact fetchL_bd k l1 h1 x hx
    ·rw [List.mem_singleton] at hx
     subst hx
     unfold fetchB at h2
     split at h2
     ·cases h3 : codeM E m (fetchA m k) with
      | none => rw [h3] at h2; cases h2
      | some c => rw [h3] at h2; cases h2; exact codeM_bd h3
     ·cases h2
theorem fetchL_head {E : Env} {m : Mach} {c : Int} : ∀ (k : Nat) (l : List Int), fetchL E m (k + 1) = .ok (c :: l) → fetchL E m 1 = .ok [c]
 | 0, l, h => by
  have := fetchL_len _ _ h
  have hl : l = [] := by cases l with | nil => rfl | cons a b => simp at this
  rw [hl] at h
  exact h
 | k + 1, l, h => by
  unfold fetchL at h
  cases h1 : fetchL E m (k + 1) with
  | error t => rw [h1] at h; cases h
  | ok l1 =>
   rw [h1] at h
   dsimp only at h
   cases h2 : fetchB E m (k + 1) with
   | error t => rw [h2] at h; cases h
   | ok d =>
    rw [h2] at h
    have hlen := fetchL_len _ _ h1
    cases l1 with
    | nil => simp at hlen
    | cons a b =>
     simp only [List.cons_append, Except.ok.injEq, List.cons.injEq] at h
     obtain ⟨rfl, _⟩ := h
     exact fetchL_head k b h1
/-- The count of the bytes, as the code holds it. -/
def fetchZ (l : List Int) : Int := match l with | [] => 1 | c :: _ => sizeI c
theorem wsum_le2 (l : List Int) (k : Nat) : wsum l k ≤ 2 * k := by
 unfold wsum
 have h1 : (l.take k).length ≤ k := by rw [List.length_take]; omega
 generalize l.take k = m at *
 have h2 : (m.map widthI).sum ≤ 2 * m.length := by
  clear h1
  induction m with
  | nil => simp
  | cons x m ih => have := widthI_bd x; rw [List.map_cons, List.sum_cons, List.length_cons]; omega
 omega
theorem sizeI_bd (c : Int) : 0 ≤ sizeI c ∧ sizeI c ≤ 9 := by
 unfold sizeI
 split
 ·omega
 ·rename_i l _
  have := wsum_bd l 4
  have := wsum_le2 l 4
  omega
/-- A trap on the way is the outcome. -/
theorem fetchM_err {E : Env} {m : Mach} {t : Int × Int} {l : List Int} (hp : m.pc ≠ 65535) (hl : fetchL E m l.length = .ok l) (hz : (l.length : Int) < fetchZ l) (he : fetchL E m (l.length + 1) = .error t) : fetchM E m = .error t := by
 unfold fetchM
 rw [if_neg hp]
 cases l with
 | nil => rw [show fetchL E m 1 = .error t from he]
 | cons c l =>
  have h1 : fetchL E m 1 = .ok [c] := fetchL_head l.length l hl
  rw [h1]
  dsimp only
  have hzc : fetchZ (c :: l) = sizeI c := rfl
  rw [hzc] at hz
  obtain ⟨d, hd⟩ : ∃ d, fetchN (([c] : List Int).headD 0) = (c :: l).length + 1 + d := ⟨fetchN c - ((c :: l).length + 1), by
   show fetchN c = _
   unfold fetchN
   omega⟩
  rw [hd, fetchL_err he d]
/-- All bytes are there. -/
theorem fetchM_all {E : Env} {m : Mach} {l : List Int} (hp : m.pc ≠ 65535) (hl : fetchL E m l.length = .ok l) (hz : ¬ (l.length : Int) < fetchZ l) (hN : (l.length : Int) ≤ max 1 (fetchZ l)) :
  fetchM E m = if (decI ⟨(bytesI l).toArray⟩).2 = 0 then .ok (decI ⟨(bytesI l).toArray⟩).1 else .error (3, 0) := by
 unfold fetchM
 rw [if_neg hp]
 cases l with
 | nil => exact absurd (by decide : ((([] : List Int).length : Int) < fetchZ [])) hz
 | cons c l =>
  have h1 : fetchL E m 1 = .ok [c] := fetchL_head l.length l hl
  rw [h1]
  dsimp only
  have hzc : fetchZ (c :: l) = sizeI c := rfl
  rw [hzc] at hz hN
  have hd : fetchN (([c] : List Int).headD 0) = (c :: l).length := by
   show fetchN c = _
   unfold fetchN
   rw [List.length_cons] at *
   omega
  rw [hd, hl]
def FetchPost (E : Env) (m : Mach) (V : World) (e : Ending) (w' : World) : Prop :=
 match fetchM E m with
 | .ok i => e = .returned (.agg i.cells.toArray) ∧ Below V.heap.size V w'
 | .error t => e = trapE t.1 t.2 ∧ Below V.heap.size V w'
theorem fetch_err {E : Env} {m : Mach} {V w' : World} {a b : Int} (h : fetchM E m = .error (a, b)) (hb : Below V.heap.size V w') : FetchPost E m V (trapE a b) w' := by unfold FetchPost; rw [h]; exact ⟨rfl, hb⟩
theorem fetch_ok {E : Env} {m : Mach} {V w' : World} {i : InsI} {v : Value} (h : fetchM E m = .ok i) (hv : v = .agg i.cells.toArray) (hb : Below V.heap.size V w') : FetchPost E m V (.returned v) w' := by unfold FetchPost; rw [h]; exact ⟨by rw [hv], hb⟩
def rowLen : Value → Nat
 | .slice _ n _ => n
 | _ => 0
structure FetIn (E : Env) (m : Mach) (V wr : World) (v : Value) (l : List Int) : Prop where
 own : wr.ownsRow (V.heap.size + 1) 5 1 v l.length (l.map (Value.int .u8))
 below : Below V.heap.size V wr
 size : V.heap.size < wr.heap.size
 res : ResI V wr
 got : fetchL E m l.length = .ok l
 bd : (l.length : Int) ≤ max 1 (fetchZ l)
theorem own_low {w : World} {b b' e size n : Nat} {v : Value} {xs : List Value} (h : w.ownsRow b e size v n xs) (hb : b' ≤ b) : w.ownsRow b' e size v n xs :=
 ⟨h.1, h.2.imp id fun ⟨g, cap, cur, h1, h2, h3⟩ => ⟨g, cap, cur, h1, Nat.le_trans hb h2, h3⟩⟩
set_option maxRecDepth 8000 in
set_option maxHeartbeats 4000000 in
theorem fetch_any {E : Env} {V : World} {m : Mach} {sv ov : Value} (h : MachAt E V m sv ov) : Calls Tryz.prog 24 #[.pointer (some ⟨E.B, 0, none⟩)] V (FetchPost E m V) := by
 obtain ⟨i5, hi5, hz5, hs5, hb5⟩ : ∃ i5, Tryz.prog.info? 5 = some i5 ∧ i5.zero = some (.int .u8 0) ∧ i5.size = 1 ∧ i5.bytes = 1 := by
  have := info5
  cases h : Tryz.prog.info? 5 with
  | none => rw [h] at this; cases this
  | some x => rw [h] at this; simp at this; exact ⟨x, rfl, this⟩
 have KN := Lib.hid (And.intro hi5 (And.intro hz5 (And.intro hs5 hb5)))
 clear hi5 hz5 hs5 hb5
 have H := Lib.hid h
 have hA : ResI V (V.alloc (.cells #[.int .i64 0, .int .i64 0, .int .i64 0, .int .u16 0, .int .u16 0, .int .i64 0, .int .i64 0] 68)) := alloc_at V _
 have KB := Lib.hid (below1 V (Obj.cells #[.int .i64 0, .int .i64 0, .int .i64 0, .int .u16 0, .int .u16 0, .int .i64 0, .int .i64 0] 68))
 have KZ : Hid (V.heap.size < (V.alloc (.cells #[.int .i64 0, .int .i64 0, .int .i64 0, .int .u16 0, .int .u16 0, .int .i64 0, .int .i64 0] 68)).heap.size) := Lib.hid (by simp)
 have KS : Hid ((V.alloc (.cells #[.int .i64 0, .int .i64 0, .int .i64 0, .int .u16 0, .int .u16 0, .int .i64 0, .int .i64 0] 68)).heap.size = V.heap.size + 1) := Lib.hid (by simp)
 have HA := Lib.hid hA
 have hpc := h.ok.pc
 unfold OkU16 at hpc
 have HPC := Lib.hid hpc
 clear hA h
 by_cases hp : m.pc = 65535
 ·have e0 : (m.pc == 65535) = true := by rw [beq_iff_eq]; exact hp
  have HR : Hid (fetchM E m = .error (6, 0)) := Lib.hid (by unfold fetchM; rw [if_pos hp])
  have c15 := (H.out.next KB.out).cell 15 _ rfl
  clear hpc hp
  go_enter Tryz.func24, Tryz.ntmps24
  go_upto_region 1 with (fail)
  generalize V.alloc _ = W0 at *
  go_wp2_with (go_at_call 34; refine (raise_any _ _ _).mono ?_; rintro e w' ⟨rfl, rfl⟩)
  exact panics rfl (fetch_err HR.out KB.out)
 ·have e0 : (m.pc == 65535) = false := by rw [beq_eq_false_iff_ne]; exact hp
  have HP : Hid (m.pc ≠ 65535) := Lib.hid hp
  have c15 := (H.out.next KB.out).cell 15 _ rfl
  clear hpc hp
  go_enter Tryz.func24, Tryz.ntmps24
  go_upto_region 3 with (fail)
  generalize V.alloc _ = W0 at *
  clear c15 e0
  go_wp2_with fail
  go_loopw [3, 4] (fun v z wr => ∃ l : List Int, z = .int .i64 (fetchZ l) ∧ FetIn E m V wr v l) (fun v _ _ => 20 - rowLen v)
  case atStart => exact ⟨[], rfl, World.ownsRow_nil _ _ _ _, KB.out, KZ.out, HA.out, rfl, by decide⟩
  case round =>
   obtain ⟨l, rfl, hin⟩ := hrel
   have HI := Lib.hid hin
   obtain ⟨p, c, rfl, hc, hpp⟩ := own_slice hin.own
   have hbd := hin.bd
   have h9 : fetchZ l ≤ 9 := by
    unfold fetchZ
    split
    ·omega
    ·exact (sizeI_bd _).2
   have hlen : (l.length : Int) ≤ 9 := by omega
   have HLEN := Lib.hid hlen
   have hM := H.out.next hin.below
   have HM := Lib.hid hM
   have c15 := hM.cell 15 _ rfl
   obtain ⟨k, hk⟩ : ∃ k : Nat, l.length = k := ⟨_, rfl⟩
   have HK := Lib.hid hk
   rw [hk] at hlen hbd
   rw [hk]
   obtain ⟨z, hz⟩ : ∃ z : Int, fetchZ l = z := ⟨_, rfl⟩
   have HZ := Lib.hid hz
   rw [hz] at h9 hbd
   rw [hz]
   clear hin hk hz hM hpp hc
   by_cases hlt : (k : Int) < z
   ·have b0 : decide ((k : Int) < z) = true := decide_eq_true hlt
    have HLT := Lib.hid hlt
    have x1 : IntKind.u16.wrap (k : Int) = k := by rw [IntKind.wrap_u16]; omega
    have x2 : IntKind.u16.wrap (m.pc + (k : Int)) = (m.pc + k) % 65536 := by rw [IntKind.wrap_u16]
    obtain ⟨q, hq⟩ : ∃ q, (m.pc + (k : Int)) % 65536 = q := ⟨_, rfl⟩
    have HQ : Hid (fetchA m k = q) := Lib.hid hq
    rw [hq] at x2
    have hq0 : 0 ≤ q ∧ q < 65536 := by omega
    have HQ0 := Lib.hid hq0
    have hp0 := HPC.out
    have y1 : IntKind.u16.wrap (q.tdiv 4096) = q / 4096 := by rw [Int.tdiv_eq_ediv_of_nonneg hq0.1, IntKind.wrap_u16]; omega
    have y2 : IntKind.u16.wrap (m.pc.tdiv 4096) = m.pc / 4096 := by rw [Int.tdiv_eq_ediv_of_nonneg hp0.1, IntKind.wrap_u16]; omega
    obtain ⟨u, hu⟩ : ∃ u, q / 4096 = u := ⟨_, rfl⟩
    obtain ⟨u', hu'⟩ : ∃ u, m.pc / 4096 = u := ⟨_, rfl⟩
    have HU := Lib.hid hu
    have HU' := Lib.hid hu'
    rw [hu] at y1
    rw [hu'] at y2
    clear hu hu' hq hq0 hp0 hlt h9 hbd hlen
    by_cases huu : u = u'
    ·have d1 : (u != u') = false := by simpa using huu
     have HUU := Lib.hid huu
     clear huu
     cases hcd : codeM E m q with
     | none =>
      have HF : Hid (fetchM E m = .error (2, q)) := Lib.hid (by
       refine fetchM_err HP.out HI.out.got (by rw [HK.out, HZ.out]; exact HLT.out) ?_
       unfold fetchL
       rw [HI.out.got, HK.out]
       dsimp only
       unfold fetchB
       rw [HQ.out, if_pos (by rw [HU.out, HU'.out]; exact HUU.out), hcd])
      have HC := Lib.hid (code_no HM.out HQ0.out hcd)
      clear hcd
      go_wp2_with fail
      refine HC.out.mono ?_
      rintro e w9 ⟨rfl, h9⟩
      exact panics (fn := Tryz.f24) rfl (fetch_err HF.out (below_next HI.out.below h9))
     | some b =>
      have HBD := Lib.hid (codeM_bd hcd)
      have HF : Hid (fetchL E m (l ++ [b]).length = .ok (l ++ [b])) := Lib.hid (by
       rw [List.length_append]
       show fetchL E m (l.length + 1) = _
       unfold fetchL
       rw [HI.out.got, HK.out]
       dsimp only
       unfold fetchB
       rw [HQ.out, if_pos (by rw [HU.out, HU'.out]; exact HUU.out), hcd])
      have HC := Lib.hid (code_yes HM.out HQ0.out hcd)
      clear hcd
      go_wp2_with fail
      refine HC.out.mono ?_
      rintro e w9 ⟨rfl, h9⟩
      have HB9 := Lib.hid h9
      clear h9
      go_wp2_with (at_builtin; refine Hid.out ?_)
      refine Lib.hid ?_
      have KSZ := Lib.hid (Nat.lt_of_lt_of_le HI.out.size HB9.out.size)
      have hown : w9.ownsRow (V.heap.size + 1) 5 1 (.slice p k c) k (l.map (Value.int .u8)) := by
       have h1 := own_next HI.out.own HB9.out
       rw [HK.out] at h1
       exact h1
      refine wpList_append_own _ rfl _ _ 42 rfl (V.heap.size + 1) 5 i5 (.int .u8 0) 1 1 Tryz.underlying42 KN.out.1 KN.out.2.1 KN.out.2.2.1 KN.out.2.2.2 rfl (by decide) _ _ _ rfl (own_next hown (below1 _ _)) _ _ _ [.int .u8 b] rfl rfl ?_ ?_ ?_ ?_ ?_ ?_
      ·intro j u hu
       cases j with
       | zero => simp at hu; subst hu; simp [go_sem]
       | succ j => simp at hu
      ·intro u hu; simp at hu; subst hu; rfl
      ·have := HLEN.out; have := HK.out; unfold maxLen; omega
      ·have := HLEN.out; have := HK.out; omega
      ·have := KSZ.out; simp; omega
      ·intro v2 w2 ho2 hg2 _
       have KO2 : Hid (w2.ownsRow (V.heap.size + 1) 5 1 v2 (l ++ [b]).length ((l ++ [b]).map (Value.int .u8))) := Lib.hid (by
        rw [List.length_append, HK.out, List.map_append]; exact ho2)
       have HBW : Hid (Below (V.heap.size + 1) w9 w2) := Lib.hid (below_grown ((below1 w9 _).mono (by have := KSZ.out; omega)) (by have := KSZ.out; simp; omega) hg2 (fun q hq => (hown.lt q hq).1))
       have HB2 : Hid (Below V.heap.size V w2) := Lib.hid (below_grown (below_alloc (below_next HI.out.below HB9.out) _) (by have := KSZ.out; simp; omega) hg2 (fun q hq => by have := (hown.lt q hq).1; omega))
       have HS2 : Hid (V.heap.size < w2.heap.size) := Lib.hid (Nat.lt_of_lt_of_le KSZ.out HBW.out.size)
       have HR2 : Hid (ResI V w2) := Lib.hid (ResI.next (ResI.next HI.out.res (Nat.lt_succ_self _) (HB9.out.mono HI.out.size)) (Nat.lt_succ_self _) HBW.out)
       clear ho2 hg2 hown
       obtain ⟨p2, c2, rfl, hc2, hp2⟩ := own_slice KO2.out
       obtain ⟨g, rfl, hg, hbg, hcell⟩ := hp2.resolve_left (by simp)
       obtain ⟨c0, l0, hl0⟩ : ∃ c0 l0, l ++ [b] = c0 :: l0 := by cases l with | nil => exact ⟨b, [], rfl⟩ | cons x y => exact ⟨x, y ++ [b], rfl⟩
       have HL0 := Lib.hid hl0
       have cz := (hcell 0 (.int .u8 c0) (by rw [hl0]; rfl)).1
       have HC0 : Hid (0 ≤ c0 ∧ c0 < 256) := Lib.hid (fetchL_bd _ _ HF.out c0 (by rw [hl0]; simp))
       have hll : (l ++ [b]).length = k + 1 := by rw [List.length_append, HK.out]; rfl
       have HLL := Lib.hid hll
       have i1 : (0 : Int) < ((k + 1 : Nat) : Int) := by omega
       have i2 : 0 < k + 1 := by omega
       clear hcell hg hbg hc2 hl0 hll
       go_wp2_with fail
       refine (size_any c0 _ HC0.out.1 HC0.out.2).mono ?_
       rintro e w3 ⟨rfl, h3⟩
       have HB3 := Lib.hid h3
       have HZ3 : Hid (sizeI c0 = fetchZ (l ++ [b])) := Lib.hid (by rw [HL0.out]; rfl)
       clear h3 cz
       go_wp2_with fail
       go_roundw
       case rel =>
        refine ⟨l ++ [b], by rw [HZ3.out], ?_, below_next HB2.out HB3.out, Nat.lt_of_lt_of_le HS2.out HB3.out.size, ResI.next HR2.out (Nat.lt_succ_self _) (HB3.out.mono HS2.out), HF.out, ?_⟩
        ·have h1 := own_next KO2.out HB3.out
         rw [HLL.out] at h1 ⊢
         have hk := HK.out
         first | exact h1 | (rw [hk]; exact h1)
        ·rw [HLL.out]
         have h1 := HLT.out
         have h2 := HZ.out
         cases l with
         | nil => have := HK.out; simp at this; omega
         | cons x y =>
          have h3 : fetchZ ((x :: y) ++ [b]) = fetchZ (x :: y) := rfl
          omega
       case measure => have := HLEN.out; have := HK.out; simp only [rowLen]; omega
    ·have d1 : (u != u') = true := by simpa using huu
     have HF : Hid (fetchM E m = .error (2, q)) := Lib.hid (by
      refine fetchM_err HP.out HI.out.got (by rw [HK.out, HZ.out]; exact HLT.out) ?_
      unfold fetchL
      rw [HI.out.got, HK.out]
      dsimp only
      unfold fetchB
      rw [HQ.out, if_neg (by rw [HU.out, HU'.out]; exact huu)])
     clear huu
     go_wp2_with (go_at_call 34; refine (raise_any _ _ _).mono ?_; rintro e w' ⟨rfl, rfl⟩)
     exact panics rfl (fetch_err HF.out HI.out.below)
   ·have b0 : decide ((k : Int) < z) = false := decide_eq_false hlt
    have HF : Hid (fetchM E m = if (decI ⟨(bytesI l).toArray⟩).2 = 0 then .ok (decI ⟨(bytesI l).toArray⟩).1 else .error (3, 0)) := Lib.hid (fetchM_all HP.out HI.out.got (by rw [HK.out, HZ.out]; exact hlt) HI.out.bd)
    have HNE : Hid (bytesI l ≠ []) := Lib.hid (fun e => by
     have : l.length = 0 := by have := congrArg List.length e; unfold bytesI at this; rw [List.length_map] at this; exact this
     have h1 := HZ.out
     have hl : l = [] := List.eq_nil_of_length_eq_zero this
     subst hl
     have h2 : fetchZ [] = 1 := rfl
     have h3 := HK.out
     simp at h3
     omega)
    have HOM : Hid (OwnsM wr (V.heap.size + 1) 5 1 (.slice p k c) k (Lib.byteCells (bytesI l))) := Lib.hid (by
     have h1 := OwnsM.of HI.out.own
     rw [HK.out] at h1
     rw [bytesI_cells l (fetchL_bd _ _ HI.out.got)]
     exact h1)
    have hcv := back_run wr _ (bytesI l) _ _ HOM.out HNE.out
    have hsz : (⟨(bytesI l).toArray⟩ : ByteArray).size ≤ 9 := by
     show (bytesI l).toArray.size ≤ 9
     have h1 := HLEN.out
     unfold bytesI
     simp
     omega
    have HSZ := Lib.hid hsz
    have HBE := Lib.hid HI.out.below
    have HSE := Lib.hid HI.out.size
    have HRE := Lib.hid HI.out.res
    generalize (⟨(bytesI l).toArray⟩ : ByteArray) = S at *
    clear hlt h9 hbd hlen hsz c15
    go_wp2_with fail
    refine (decode_any S _ (by have := HSZ.out; omega)).mono ?_
    rintro e w9 ⟨rfl, h9⟩
    have HB9 := Lib.hid h9
    obtain ⟨i, hi⟩ : ∃ i, (decI S).1 = i := ⟨_, rfl⟩
    obtain ⟨ec, hec⟩ : ∃ e, (decI S).2 = e := ⟨_, rfl⟩
    rw [hi, hec]
    rw [hi, hec] at HF
    obtain ⟨op, di, si, imm, aux, bank, size⟩ := i
    have HB1 := Lib.hid (below_next HBE.out h9)
    have HR1 := Lib.hid (ResI.next HRE.out (Nat.lt_succ_self _) (h9.mono HSE.out))
    have HS1 := Lib.hid (Nat.lt_of_lt_of_le HSE.out h9.size)
    clear h9 hi hec
    simp only [InsI.cells]
    have HB2 := Lib.hid (fun o => below_alloc HB1.out o)
    have HR2 := Lib.hid (fun o => ResI.next HR1.out (Nat.lt_succ_self _) ((below1 w9 o).mono HS1.out))
    by_cases he : ec = 0
    ·have e1 : (ec != 0) = false := by simpa using he
     have HR : Hid (fetchM E m = .ok ⟨op, di, si, imm, aux, bank, size⟩) := Lib.hid (by rw [HF.out, if_pos he])
     clear he
     go_upto_region 14 with (fail)
     have HB3 := Lib.hid (HB2.out (Obj.cells #[.int .i64 op, .int .i64 di, .int .i64 si, .int .u16 imm, .int .u16 aux, .int .i64 bank, .int .i64 size] 68))
     have HR3 := Lib.hid (HR2.out (Obj.cells #[.int .i64 op, .int .i64 di, .int .i64 si, .int .u16 imm, .int .u16 aux, .int .i64 bank, .int .i64 size] 68))
     have HI3 : Hid (InsAt (w9.alloc (Obj.cells #[.int .i64 op, .int .i64 di, .int .i64 si, .int .u16 imm, .int .u16 aux, .int .i64 bank, .int .i64 size] 68)) w9.heap.size ⟨op, di, si, imm, aux, bank, size⟩) := Lib.hid (alloc_at w9 _)
     generalize w9.alloc _ = W3 at *
     obtain ⟨i0, i1, i2, i3, i4, i5', i6⟩ := HI3.out.cells
     obtain ⟨⟨r0, r1, r2, r3, r4, r5, r6⟩, y0, y1, y2, y3, y4, y5, y6⟩ := resI_cells (HR3.out)
     go_wp2_with fail
     exact bodyPost_ret (v := .agg #[.int .i64 op, .int .i64 di, .int .i64 si, .int .u16 imm, .int .u16 aux, .int .i64 bank, .int .i64 size]) (by simp [results, Tryz.results24, go_sem, r0, r1, r2, r3, r4, r5, r6]) rfl (fetch_ok HR.out rfl (seven HB3.out _ _ _ _ _ _ _))
    ·have e1 : (ec != 0) = true := by simpa using he
     have HR : Hid (fetchM E m = .error (3, 0)) := Lib.hid (by rw [HF.out, if_neg he])
     clear he
     go_wp2_with (go_at_call 34; refine (raise_any _ _ _).mono ?_; rintro e w' ⟨rfl, rfl⟩)
     exact panics (fn := Tryz.f24) rfl (fetch_err HR.out (HB2.out _))
end Go.Proofs.YtieaicdihingkaaGreat
namespace Go.Proofs.YtieaicdihingkaaGreat
set_option linter.unusedVariables false
set_option linter.unusedSimpArgs false
open Go.RowKit
structure InsIn (i : InsI) : Prop where
 d : 0 ≤ i.d ∧ i.d < 8
 s : 0 ≤ i.s ∧ i.s < 8
 imm : 0 ≤ i.imm ∧ i.imm < 65536
 aux : 0 ≤ i.aux ∧ i.aux < 65536
 bank : 0 ≤ i.bank ∧ i.bank < 256
 size : 0 ≤ i.size ∧ i.size ≤ 9
theorem rdStep_op (t : ByteArray) (f : Int) (n : Nat) (i : InsI) : (rdStep t f n i).op = i.op ∧ (rdStep t f n i).size = i.size := by
 unfold rdStep
 repeat' split
 all_goals exact ⟨rfl, rfl⟩
theorem rdAll_op (t : ByteArray) : ∀ (l : List Int) (n : Nat) (i : InsI), (rdAll t l n i).op = i.op ∧ (rdAll t l n i).size = i.size
 | [], _, i => ⟨rfl, rfl⟩
 | f :: l, n, i => by
  have h := rdAll_op t l (n + (widthI f).toNat) (rdStep t f n i)
  have h2 := rdStep_op t f n i
  exact ⟨h.1.trans h2.1, h.2.trans h2.2⟩
theorem rdStep_d (t : ByteArray) (f : Int) (n : Nat) (i : InsI) (h1 : f ≠ 1) (h2 : f ≠ 2) : (rdStep t f n i).d = i.d := by
 unfold rdStep
 rw [if_neg h1, if_neg h2]
 repeat' split
 all_goals rfl
theorem rdStep_s (t : ByteArray) (f : Int) (n : Nat) (i : InsI) (h1 : f ≠ 1) (h2 : f ≠ 3) : (rdStep t f n i).s = i.s := by
 unfold rdStep
 simp only [if_neg h1, if_neg h2]
 repeat' split
 all_goals rfl
theorem rdStep_bank (t : ByteArray) (f : Int) (n : Nat) (i : InsI) (h1 : f ≠ 8) (h2 : f ≠ 9) : (rdStep t f n i).bank = i.bank := by
 unfold rdStep
 rw [if_neg (show ¬ (f = 8 ∨ f = 9) from fun h => h.elim h1 h2)]
 repeat' split
 all_goals rfl
theorem rdAll_d (t : ByteArray) : ∀ (l : List Int) (n : Nat) (i : InsI), (1 : Int) ∉ l → (2 : Int) ∉ l → (rdAll t l n i).d = i.d
 | [], _, i, _, _ => rfl
 | f :: l, n, i, h1, h2 => by
  have h := rdAll_d t l (n + (widthI f).toNat) (rdStep t f n i) (fun h => h1 (List.mem_cons_of_mem _ h)) (fun h => h2 (List.mem_cons_of_mem _ h))
  exact h.trans (rdStep_d t f n i (fun e => h1 (by rw [e]; exact List.mem_cons_self)) (fun e => h2 (by rw [e]; exact List.mem_cons_self)))
theorem rdAll_s (t : ByteArray) : ∀ (l : List Int) (n : Nat) (i : InsI), (1 : Int) ∉ l → (3 : Int) ∉ l → (rdAll t l n i).s = i.s
 | [], _, i, _, _ => rfl
 | f :: l, n, i, h1, h2 => by
  have h := rdAll_s t l (n + (widthI f).toNat) (rdStep t f n i) (fun h => h1 (List.mem_cons_of_mem _ h)) (fun h => h2 (List.mem_cons_of_mem _ h))
  exact h.trans (rdStep_s t f n i (fun e => h1 (by rw [e]; exact List.mem_cons_self)) (fun e => h2 (by rw [e]; exact List.mem_cons_self)))
theorem rdAll_bank (t : ByteArray) : ∀ (l : List Int) (n : Nat) (i : InsI), (8 : Int) ∉ l → (9 : Int) ∉ l → (rdAll t l n i).bank = i.bank
 | [], _, i, _, _ => rfl
 | f :: l, n, i, h1, h2 => by
  have h := rdAll_bank t l (n + (widthI f).toNat) (rdStep t f n i) (fun h => h1 (List.mem_cons_of_mem _ h)) (fun h => h2 (List.mem_cons_of_mem _ h))
  exact h.trans (rdStep_bank t f n i (fun e => h1 (by rw [e]; exact List.mem_cons_self)) (fun e => h2 (by rw [e]; exact List.mem_cons_self)))
theorem regI_bd {x : Int} (h : regI x = true) : 0 ≤ x ∧ x < 8 := by
 unfold regI at h
 simp only [Bool.and_eq_true, decide_eq_true_eq] at h
 exact h
theorem read_in (t : ByteArray) (fs : List Int) (hf : fmtOf (byteI t 0) = some fs) (hv : validI (readI t fs) = true) : InsIn (readI t fs) := by
 have hok := readI_ok t fs
 have hop := rdAll_op t fs 1 ⟨byteI t 0, 0, 0, 0, 0, 0, sizeI (byteI t 0)⟩
 have hop1 : (readI t fs).op = byteI t 0 := hop.1
 have hsz : (readI t fs).size = sizeI (byteI t 0) := hop.2
 unfold validI at hv
 rw [hop1, hf] at hv
 simp only [Bool.and_eq_true, List.all_eq_true] at hv
 have hall := hv.1
 obtain ⟨m0, m1, a0, a1⟩ := hok
 have hs := sizeI_bd (byteI t 0)
 refine ⟨?_, ?_, ⟨m0, m1⟩, ⟨a0, a1⟩, ?_, by rw [hsz]; exact hs⟩
 ·by_cases h1 : (1 : Int) ∈ fs
  ·have := hall _ h1
   unfold fitI at this
   rw [if_pos rfl, Bool.and_eq_true] at this
   exact regI_bd this.1
  ·by_cases h2 : (2 : Int) ∈ fs
   ·have := hall _ h2
    unfold fitI at this
    rw [if_neg (by decide), if_pos rfl] at this
    exact regI_bd this
   ·rw [show (readI t fs).d = 0 from rdAll_d t fs 1 _ h1 h2]
    decide
 ·by_cases h1 : (1 : Int) ∈ fs
  ·have := hall _ h1
   unfold fitI at this
   rw [if_pos rfl, Bool.and_eq_true] at this
   exact regI_bd this.2
  ·by_cases h2 : (3 : Int) ∈ fs
   ·have := hall _ h2
    unfold fitI at this
    rw [if_neg (by decide), if_neg (by decide), if_pos rfl] at this
    exact regI_bd this
   ·rw [show (readI t fs).s = 0 from rdAll_s t fs 1 _ h1 h2]
    decide
 ·by_cases h1 : (8 : Int) ∈ fs
  ·have := hall _ h1
   unfold fitI at this
   rw [if_neg (by decide), if_neg (by decide), if_neg (by decide), if_neg (by decide), if_neg (by decide), if_pos rfl, Bool.and_eq_true, decide_eq_true_eq, decide_eq_true_eq] at this
   omega
  ·by_cases h2 : (9 : Int) ∈ fs
   ·have := hall _ h2
    unfold fitI at this
    rw [if_neg (by decide), if_neg (by decide), if_neg (by decide), if_neg (by decide), if_neg (by decide), if_neg (by decide), if_pos rfl, Bool.and_eq_true, decide_eq_true_eq, decide_eq_true_eq] at this
    omega
   ·rw [show (readI t fs).bank = 0 from rdAll_bank t fs 1 _ h1 h2]
    decide
theorem dec_in {s : ByteArray} (h : (decI s).2 = 0) : InsIn (decI s).1 := by
 unfold decI at h ⊢
 by_cases h0 : s.size = 0
 ·rw [if_pos h0] at h; exact absurd h (by decide)
 ·rw [if_neg h0] at h ⊢
  cases hf : fmtOf (byteI s 0) with
  | none =>
   rw [hf] at h
   dsimp only at h
   exact absurd h (by decide)
  | some fs =>
   rw [hf] at h
   dsimp only at h ⊢
   by_cases h1 : (s.size : Int) < sizeI (byteI s 0)
   ·rw [if_pos h1] at h; exact absurd h (by decide)
   ·rw [if_neg h1] at h ⊢
    by_cases h2 : validI (readI s fs) = true
    ·rw [if_pos h2]
     exact read_in s fs hf h2
    ·rw [if_neg h2] at h; exact absurd h (by decide)
theorem fetch_in {E : Env} {m : Mach} {i : InsI} (h : fetchM E m = .ok i) : InsIn i := by
 unfold fetchM at h
 split at h
 ·cases h
 ·split at h
  ·cases h
  ·split at h
   ·cases h
   ·split at h
    ·rename_i hz
     cases h
     exact dec_in hz
    ·cases h
end Go.Proofs.YtieaicdihingkaaGreat
