/- The reference's machine: arith. -/
import Derived.Test.YtieaicdihingkaaGreatZ0
import Derived.Test.YtieaicdihingkaaGreatWX
namespace Go.Proofs.YtieaicdihingkaaGreat
set_option linter.unusedVariables false
set_option linter.unusedSimpArgs false
open Go.RowKit
theorem RM.putR {b0 : Nat} {U V W : World} {E : Env} {B g : Nat} {s : RSt} (h : RM b0 U E B g s V) (d : Nat) (hd : d < 8) (x : Int) (e : V.setCell ⟨B, 7 + d, none⟩ (.int .u16 x) = W) : RM b0 U E B g { s with m := { s.m with R := setR s.m.R d x } } W := by
 refine h.put (7 + d) _ e (fun sv ov => ?_) rfl rfl rfl
 unfold rcells
 rw [show mcells { E with ramB := g } { s.m with R := setR s.m.R d x } sv ov = (mcells { E with ramB := g } s.m sv ov).set (7 + d) (.int .u16 x) from mcells_reg _ _ _ _ _ _ hd, List.set_append, if_pos (by show 7 + d < 26; omega)]
theorem RM.cellR {b0 : Nat} {U V : World} {E : Env} {B g : Nat} {s : RSt} (h : RM b0 U E B g s V) (d : Nat) (hd : d < 8) : V.cell? ⟨B, 7 + d, none⟩ = some (.int .u16 (s.m.R d)) := by
 refine h.cell (7 + d) _ fun sv ov => ?_
 unfold rcells
 rw [List.getElem?_append_left (by show 7 + d < 26; omega)]
 exact mcells_getR _ _ _ _ _ hd
theorem RM.putF {b0 : Nat} {U V W : World} {E : Env} {B g : Nat} {s : RSt} (h : RM b0 U E B g s V) (x : Int) (e : V.setCell ⟨B, 18, none⟩ (.int .u16 x) = W) : RM b0 U E B g { s with m := { s.m with f := x } } W := h.put 18 _ e (fun _ _ => rfl) rfl rfl rfl
/-- The outcome of an instruction, or the trap. -/
def rE (s : RSt) (r : Except (Int × Int) Mach) : RSt := match r with | .ok m => { s with m := m } | .error t => rfail s t.1 t.2
set_option maxRecDepth 20000 in
set_option maxHeartbeats 20000000 in
theorem arith_z {b0 : Nat} {U V : World} {E : Env} {B g : Nat} {s : RSt} (h : RM b0 U E B g s V) (ok : s.m.Ok) (op : Int) (hop : 32 ≤ op ∧ op ≤ 46) (d : Nat) (hd : d < 8) (b : Int) (hb : OkU16 b) : Calls Tryz.prog 31 #[.pointer (some ⟨B, 0, none⟩), .int .i64 op, .int .i64 (d : Int), .int .u16 b] V (Leaves0 b0 U E B g (rE s (arithM s.m op d b))) := by
 have H := Lib.hid h
 have cR := h.cellR d hd
 have zR := h.frz (7 + d)
 have c18 := h.cell 18 (.int .u16 s.m.f) (fun _ _ => rfl)
 have z18 := h.frz 18
 have HD := Lib.hid hd
 have d0 : (0 : Int) ≤ (d : Int) := by omega
 have d1 : (d : Int) < 8 := by omega
 have HB := Lib.hid hb
 have HA := Lib.hid (ok.R d)
 have HF := Lib.hid ok.f
 obtain ⟨a, ha⟩ : ∃ a, s.m.R d = a := ⟨_, rfl⟩
 obtain ⟨f, hf⟩ : ∃ f, s.m.f = f := ⟨_, rfl⟩
 rw [ha] at cR HA
 rw [hf] at c18 HF
 have hbc : (bits .and .u16 f 4 != 0) = fc f := bit_c f HF.out.1 HF.out.2
 have HAA := Lib.hid ha
 have HFF := Lib.hid hf
 have HST : Hid (∀ W F r, OkU16 F → (V.setCell ⟨B, 18, none⟩ (.int .u16 F)).setCell ⟨B, 7 + d, none⟩ (.int .u16 r) = W → RM b0 U E B g { s with m := setRF s.m d F r } W) := Lib.hid fun W F r _ e => (h.putF F rfl).putR d hd r e
 have HRES : Hid (∀ op r, resI op a b = some r → OkU16 r) := Lib.hid fun op r e => resI_ok HA.out hb e
 have ne : ((⟨B, 7 + d, none⟩ : Addr) == ⟨B, 18, none⟩) = false := by simp
 clear h hd hb ok ha hf
 have hops : op = 32 ∨ op = 33 ∨ op = 34 ∨ op = 35 ∨ op = 36 ∨ op = 37 ∨ op = 38 ∨ op = 39 ∨ op = 40 ∨ op = 41 ∨ op = 42 ∨ op = 43 ∨ op = 44 ∨ op = 45 ∨ op = 46 := by omega
 clear hop
 rcases hops with rfl | rfl | rfl | rfl | rfl | rfl | rfl | rfl | rfl | rfl | rfl | rfl | rfl | rfl | rfl
 ·go_enter Tryz.func31, Tryz.ntmps31
  go_wp2_with fail
  exact ends (v := .tuple #[]) (by simp [results, Tryz.results31]) rfl ⟨rfl, by
   have hr : rE s (arithM s.m 32 d b) = { s with m := { s.m with R := setR s.m.R d b } } := by simp [arithM, rE, resI, HAA.out, HFF.out]
   rw [hr]
   exact H.out.putR d HD.out b rfl⟩
 ·have HC := Lib.hid (fun w => radd_any a b (false) w HA.out.1 HA.out.2 HB.out.1 HB.out.2)
  go_enter Tryz.func31, Tryz.ntmps31
  go_wp2_with fail
  refine (HC.out _).mono ?_
  rintro e w ⟨rfl, rfl⟩
  go_wp2_with fail
  exact ends (v := .tuple #[]) (by simp [results, Tryz.results31]) rfl ⟨rfl, by
   have hr : rE s (arithM s.m 33 d b) = { s with m := setRF s.m d (addF a b (false)) (addR a b (false)) } := by simp [arithM, rE, resI, HAA.out, HFF.out]
   rw [hr]
   exact HST.out _ _ _ (addF_ok _ _ _) rfl⟩
 ·have HC := Lib.hid (fun w => radd_any a b (fc f) w HA.out.1 HA.out.2 HB.out.1 HB.out.2)
  go_enter Tryz.func31, Tryz.ntmps31
  go_wp2_with fail
  refine (HC.out _).mono ?_
  rintro e w ⟨rfl, rfl⟩
  go_wp2_with fail
  exact ends (v := .tuple #[]) (by simp [results, Tryz.results31]) rfl ⟨rfl, by
   have hr : rE s (arithM s.m 34 d b) = { s with m := setRF s.m d (addF a b (fc f)) (addR a b (fc f)) } := by simp [arithM, rE, resI, HAA.out, HFF.out]
   rw [hr]
   exact HST.out _ _ _ (addF_ok _ _ _) rfl⟩
 ·have HC := Lib.hid (fun w => rsub_any a b (true) w HA.out.1 HA.out.2 HB.out.1 HB.out.2)
  go_enter Tryz.func31, Tryz.ntmps31
  go_wp2_with fail
  refine (HC.out _).mono ?_
  rintro e w ⟨rfl, rfl⟩
  go_wp2_with fail
  exact ends (v := .tuple #[]) (by simp [results, Tryz.results31]) rfl ⟨rfl, by
   have hr : rE s (arithM s.m 35 d b) = { s with m := setRF s.m d (subF a b (true)) (subR a b (true)) } := by simp [arithM, rE, resI, HAA.out, HFF.out]
   rw [hr]
   exact HST.out _ _ _ (addF_ok _ _ _) rfl⟩
 ·have HC := Lib.hid (fun w => rsub_any a b (fc f) w HA.out.1 HA.out.2 HB.out.1 HB.out.2)
  go_enter Tryz.func31, Tryz.ntmps31
  go_wp2_with fail
  refine (HC.out _).mono ?_
  rintro e w ⟨rfl, rfl⟩
  go_wp2_with fail
  exact ends (v := .tuple #[]) (by simp [results, Tryz.results31]) rfl ⟨rfl, by
   have hr : rE s (arithM s.m 36 d b) = { s with m := setRF s.m d (subF a b (fc f)) (subR a b (fc f)) } := by simp [arithM, rE, resI, HAA.out, HFF.out]
   rw [hr]
   exact HST.out _ _ _ (addF_ok _ _ _) rfl⟩
 ·have hr9 : resI 37 a b = some (bits .and .u16 a b) := by simp [resI]
  have HOR := Lib.hid (HRES.out _ _ hr9)
  have HC := Lib.hid (fun w => rwith_any f (bits .and .u16 a b) w HF.out.1 HF.out.2 HOR.out.1 HOR.out.2)
  clear hr9
  go_enter Tryz.func31, Tryz.ntmps31
  go_wp2_with fail
  refine (HC.out _).mono ?_
  rintro e w ⟨rfl, rfl⟩
  go_wp2_with fail
  exact ends (v := .tuple #[]) (by simp [results, Tryz.results31]) rfl ⟨rfl, by
   have hr : rE s (arithM s.m 37 d b) = { s with m := setRF s.m d (withI f (bits .and .u16 a b)) (bits .and .u16 a b) } := by simp [arithM, rE, resI, HAA.out, HFF.out]
   rw [hr]
   exact HST.out _ _ _ (withI_ok _ _) rfl⟩
 ·have hr9 : resI 38 a b = some (bits .or .u16 a b) := by simp [resI]
  have HOR := Lib.hid (HRES.out _ _ hr9)
  have HC := Lib.hid (fun w => rwith_any f (bits .or .u16 a b) w HF.out.1 HF.out.2 HOR.out.1 HOR.out.2)
  clear hr9
  go_enter Tryz.func31, Tryz.ntmps31
  go_wp2_with fail
  refine (HC.out _).mono ?_
  rintro e w ⟨rfl, rfl⟩
  go_wp2_with fail
  exact ends (v := .tuple #[]) (by simp [results, Tryz.results31]) rfl ⟨rfl, by
   have hr : rE s (arithM s.m 38 d b) = { s with m := setRF s.m d (withI f (bits .or .u16 a b)) (bits .or .u16 a b) } := by simp [arithM, rE, resI, HAA.out, HFF.out]
   rw [hr]
   exact HST.out _ _ _ (withI_ok _ _) rfl⟩
 ·have hr9 : resI 39 a b = some (bits .xor .u16 a b) := by simp [resI]
  have HOR := Lib.hid (HRES.out _ _ hr9)
  have HC := Lib.hid (fun w => rwith_any f (bits .xor .u16 a b) w HF.out.1 HF.out.2 HOR.out.1 HOR.out.2)
  clear hr9
  go_enter Tryz.func31, Tryz.ntmps31
  go_wp2_with fail
  refine (HC.out _).mono ?_
  rintro e w ⟨rfl, rfl⟩
  go_wp2_with fail
  exact ends (v := .tuple #[]) (by simp [results, Tryz.results31]) rfl ⟨rfl, by
   have hr : rE s (arithM s.m 39 d b) = { s with m := setRF s.m d (withI f (bits .xor .u16 a b)) (bits .xor .u16 a b) } := by simp [arithM, rE, resI, HAA.out, HFF.out]
   rw [hr]
   exact HST.out _ _ _ (withI_ok _ _) rfl⟩
 ·have HC := Lib.hid (fun w => rsub_any a b true w HA.out.1 HA.out.2 HB.out.1 HB.out.2)
  go_enter Tryz.func31, Tryz.ntmps31
  go_wp2_with fail
  refine (HC.out _).mono ?_
  rintro e w ⟨rfl, rfl⟩
  go_wp2_with fail
  exact ends (v := .tuple #[]) (by simp [results, Tryz.results31]) rfl ⟨rfl, by
   have hr : rE s (arithM s.m 40 d b) = { s with m := { s.m with f := subF a b true } } := by simp [arithM, rE, resI, HAA.out, HFF.out]
   rw [hr]
   exact H.out.putF _ rfl⟩
 ·have hr9 : resI 41 a b = some (bits .and .u16 a b) := by simp [resI]
  have HOR := Lib.hid (HRES.out _ _ hr9)
  have HC := Lib.hid (fun w => rwith_any f (bits .and .u16 a b) w HF.out.1 HF.out.2 HOR.out.1 HOR.out.2)
  clear hr9
  go_enter Tryz.func31, Tryz.ntmps31
  go_wp2_with fail
  refine (HC.out _).mono ?_
  rintro e w ⟨rfl, rfl⟩
  go_wp2_with fail
  exact ends (v := .tuple #[]) (by simp [results, Tryz.results31]) rfl ⟨rfl, by
   have hr : rE s (arithM s.m 41 d b) = { s with m := { s.m with f := withI f (bits .and .u16 a b) } } := by simp [arithM, rE, resI, HAA.out, HFF.out]
   rw [hr]
   exact H.out.putF _ rfl⟩
 ·have hr9 : resI 42 a b = some ((a * b) % 65536) := by simp [resI]
  have HOR := Lib.hid (HRES.out _ _ hr9)
  have HC := Lib.hid (fun w => rwith_any f ((a * b) % 65536) w HF.out.1 HF.out.2 HOR.out.1 HOR.out.2)
  clear hr9
  have xm : IntKind.u16.wrap (a * b) = (a * b) % 65536 := IntKind.wrap_u16 _
  go_enter Tryz.func31, Tryz.ntmps31
  go_wp2_with fail
  refine (HC.out _).mono ?_
  rintro e w ⟨rfl, rfl⟩
  go_wp2_with fail
  exact ends (v := .tuple #[]) (by simp [results, Tryz.results31]) rfl ⟨rfl, by
   have hr : rE s (arithM s.m 42 d b) = { s with m := setRF s.m d (withI f ((a * b) % 65536)) ((a * b) % 65536) } := by simp [arithM, rE, resI, HAA.out, HFF.out]
   rw [hr]
   exact HST.out _ _ _ (withI_ok _ _) rfl⟩
 ·by_cases hz : b = 0
  ·subst hz
   go_enter Tryz.func31, Tryz.ntmps31
   go_wp2_with fail
   refine (fail_z H.out 4 0).mono ?_
   rintro e w ⟨rfl, hw⟩
   have HW := Lib.hid hw
   clear hw
   go_wp2_with fail
   exact ends (v := .tuple #[]) (by simp [results, Tryz.results31]) rfl ⟨rfl, by
    have hr : rE s (arithM s.m 43 d 0) = rfail s 4 0 := by simp [arithM, rE, resI]
    rw [hr]
    exact HW.out⟩
  have HZ := Lib.hid hz
  have b0 : (b == 0) = false := by simpa using hz
  have q1 : a.tdiv b = a / b := Int.tdiv_eq_ediv_of_nonneg HA.out.1
  have q2 : IntKind.u16.wrap (a / b) = a / b := by
   have := HA.out.1
   have := HA.out.2
   rw [IntKind.wrap_u16]
   have h1 := Int.ediv_nonneg HA.out.1 HB.out.1
   have h2 := Int.ediv_le_self b HA.out.1
   omega
  have hr9 : resI 43 a b = some (a / b) := by simp [resI, HZ.out]
  have HOR := Lib.hid (HRES.out _ _ hr9)
  have HC := Lib.hid (fun w => rwith_any f (a / b) w HF.out.1 HF.out.2 HOR.out.1 HOR.out.2)
  clear hr9
  go_enter Tryz.func31, Tryz.ntmps31
  go_wp2_with fail
  refine (HC.out _).mono ?_
  rintro e w ⟨rfl, rfl⟩
  go_wp2_with fail
  exact ends (v := .tuple #[]) (by simp [results, Tryz.results31]) rfl ⟨rfl, by
   have hr : rE s (arithM s.m 43 d b) = { s with m := setRF s.m d (withI f (a / b)) (a / b) } := by simp [arithM, rE, resI, HAA.out, HFF.out, HZ.out]
   rw [hr]
   exact HST.out _ _ _ (withI_ok _ _) rfl⟩
 ·have HS := Lib.hid (fun w => rshift_any 0 a b w (by decide) (by decide) HA.out.1 HA.out.2 HB.out.1 HB.out.2)
  have hw : IntKind.i64.wrap 0 = 0 := rfl
  have hr9 : resI 44 a b = some (shN 0 a (b % 16).toNat) := by simp [resI]
  have HOR := Lib.hid (HRES.out _ _ hr9)
  have HC := Lib.hid (fun w => rwith_any f (shN 0 a (b % 16).toNat) w HF.out.1 HF.out.2 HOR.out.1 HOR.out.2)
  clear hr9
  go_enter Tryz.func31, Tryz.ntmps31
  go_wp2_with fail
  refine (HS.out _).mono ?_
  rintro e w ⟨rfl, rfl⟩
  go_wp2_with fail
  refine (HC.out _).mono ?_
  rintro e w ⟨rfl, rfl⟩
  go_wp2_with fail
  exact ends (v := .tuple #[]) (by simp [results, Tryz.results31]) rfl ⟨rfl, by
   have hr : rE s (arithM s.m 44 d b) = { s with m := setRF s.m d (withI f (shN 0 a (b % 16).toNat)) (shN 0 a (b % 16).toNat) } := by simp [arithM, rE, resI, HAA.out, HFF.out]
   rw [hr]
   exact HST.out _ _ _ (withI_ok _ _) rfl⟩
 ·have HS := Lib.hid (fun w => rshift_any 1 a b w (by decide) (by decide) HA.out.1 HA.out.2 HB.out.1 HB.out.2)
  have hw : IntKind.i64.wrap 1 = 1 := rfl
  have hr9 : resI 45 a b = some (shN 1 a (b % 16).toNat) := by simp [resI]
  have HOR := Lib.hid (HRES.out _ _ hr9)
  have HC := Lib.hid (fun w => rwith_any f (shN 1 a (b % 16).toNat) w HF.out.1 HF.out.2 HOR.out.1 HOR.out.2)
  clear hr9
  go_enter Tryz.func31, Tryz.ntmps31
  go_wp2_with fail
  refine (HS.out _).mono ?_
  rintro e w ⟨rfl, rfl⟩
  go_wp2_with fail
  refine (HC.out _).mono ?_
  rintro e w ⟨rfl, rfl⟩
  go_wp2_with fail
  exact ends (v := .tuple #[]) (by simp [results, Tryz.results31]) rfl ⟨rfl, by
   have hr : rE s (arithM s.m 45 d b) = { s with m := setRF s.m d (withI f (shN 1 a (b % 16).toNat)) (shN 1 a (b % 16).toNat) } := by simp [arithM, rE, resI, HAA.out, HFF.out]
   rw [hr]
   exact HST.out _ _ _ (withI_ok _ _) rfl⟩
 ·have HS := Lib.hid (fun w => rshift_any 2 a b w (by decide) (by decide) HA.out.1 HA.out.2 HB.out.1 HB.out.2)
  have hw : IntKind.i64.wrap 2 = 2 := rfl
  have hr9 : resI 46 a b = some (shN 2 a (b % 16).toNat) := by simp [resI]
  have HOR := Lib.hid (HRES.out _ _ hr9)
  have HC := Lib.hid (fun w => rwith_any f (shN 2 a (b % 16).toNat) w HF.out.1 HF.out.2 HOR.out.1 HOR.out.2)
  clear hr9
  go_enter Tryz.func31, Tryz.ntmps31
  go_wp2_with fail
  refine (HS.out _).mono ?_
  rintro e w ⟨rfl, rfl⟩
  go_wp2_with fail
  refine (HC.out _).mono ?_
  rintro e w ⟨rfl, rfl⟩
  go_wp2_with fail
  exact ends (v := .tuple #[]) (by simp [results, Tryz.results31]) rfl ⟨rfl, by
   have hr : rE s (arithM s.m 46 d b) = { s with m := setRF s.m d (withI f (shN 2 a (b % 16).toNat)) (shN 2 a (b % 16).toNat) } := by simp [arithM, rE, resI, HAA.out, HFF.out]
   rw [hr]
   exact HST.out _ _ _ (withI_ok _ _) rfl⟩
set_option maxRecDepth 8000 in
set_option maxHeartbeats 8000000 in
theorem neg_z {b0 : Nat} {U V : World} {E : Env} {B g : Nat} {s : RSt} (h : RM b0 U E B g s V) (ok : s.m.Ok) (d : Nat) (hd : d < 8) : Calls Tryz.prog 30 #[.pointer (some ⟨B, 0, none⟩), .int .i64 18, .int .i64 (d : Int)] V (Leaves0 b0 U E B g { s with m := negM s.m d }) := by
 have H := Lib.hid h
 have HD := Lib.hid hd
 have d0 : (0 : Int) ≤ (d : Int) := by omega
 have d1 : (d : Int) < 8 := by omega
 have HA := Lib.hid (ok.R d)
 have HF := Lib.hid ok.f
 have HK : Hid (∀ s', s'.m.R d = s'.m.R d → ∀ V, RM b0 U E B g s' V → ∀ W, Below V.heap.size V W → W.cell? ⟨B, 7 + d, none⟩ = some (.int .u16 (s'.m.R d)) ∧ W.frozen? ⟨B, 7 + d, none⟩ = false ∧ W.cell? ⟨B, 18, none⟩ = some (.int .u16 s'.m.f) ∧ W.frozen? ⟨B, 18, none⟩ = false) := Lib.hid fun s' _ V h W hW => ⟨(h.next hW).cellR d hd, (h.next hW).frz (7 + d), (h.next hW).cell 18 _ (fun _ _ => rfl), (h.next hW).frz 18⟩
 have HC := Lib.hid (fun w => rsub_any 0 (s.m.R d) true w (by decide) (by decide) HA.out.1 HA.out.2)
 have HKC := Lib.hid (HK.out s rfl V h)
 clear h hd ok
 go_enter Tryz.func30, Tryz.ntmps30
 go_upto_region 1 with (fail)
 refine' wp_region_flowT [5, 6, 7, 8, 9, 10] [18, 22] [[], [], [], [], [], [(12, 3)], [(14, 5)], [(15, 6)], [(16, 7), (13, 4)], [(17, 8)], [(18, 9)], [(19, 10)], [(8, 11)], [(8, 11)], [(9, 0)], [(22, 14)], [(23, 15)], [(24, 16), (10, 1)], [(25, 17), (20, 12)], [(11, 2)], [(26, 19)], [(27, 20)], [(28, 21), (21, 13)]] [(9, 0), (10, 1), (11, 2), (12, 3), (13, 4), (14, 5), (15, 6), (16, 7), (17, 8), (18, 9), (19, 10), (8, 11), (20, 12), (21, 13), (22, 14), (23, 15), (24, 16), (25, 17), (26, 19), (27, 20), (28, 21)] (relL [eqV _, eqV _, eqV _, eqV _, eqV _, eqV _, eqV _, eqV _, eqV _, eqV _, eqV _, eqV _, eqV _, eqV _, eqV _, eqV _, eqV _, eqV _, fun v V => True, eqV _, eqV _, eqV _, fun v V => True]) [(18, _), (22, _)] (by kernel_rfl) (by kernel_rfl) rfl ?_ ?_
 rotate_left 21
 ·iterate 5
   refine FlowT.val (by decide) _ (fun _ _ => Iff.rfl) ?_ ?_
   ·simp only [DepP, lQ]
    repeat rintro _ ⟨_, rfl⟩
    intro V K hK
    go_simp
    exact hK
  iterate 5
   refine FlowT.mem (by decide) ?_ ?_
   ·intro V hV
    simp only [Dep, lQ]
    repeat rintro _ ⟨_, rfl, _⟩
    intro K hK
    obtain ⟨cR, zR, c18, z18⟩ := HKC.out _ hV
    go_simp
    refine hK _ _ ?_ (Below.refl _ _)
    simp only [lR]
    exact rfl
  refine FlowT.mem (by decide) ?_ ?_
  ·intro V hV
   simp only [Dep, lQ]
   repeat rintro _ ⟨_, rfl, _⟩
   intro K hK
   obtain ⟨cR, zR, c18, z18⟩ := HKC.out _ hV
   go_simp
   go_at_call 52
   refine (HC.out _).mono ?_
   rintro e w9 ⟨rfl, rfl⟩
   refine hK _ _ ?_ (Below.refl _ _)
   simp only [lR]
   exact rfl
  iterate 7
   refine FlowT.val (by decide) _ (fun _ _ => Iff.rfl) ?_ ?_
   ·simp only [DepP, lQ]
    repeat rintro _ ⟨_, rfl⟩
    intro V K hK
    go_simp
    exact hK
  refine FlowT.store (by decide) rfl ?_
  iterate 3
   refine FlowT.val (by decide) _ (fun _ _ => Iff.rfl) ?_ ?_
   ·simp only [DepP, lQ]
    repeat rintro _ ⟨_, rfl⟩
    intro V K hK
    go_simp
    exact hK
  refine FlowT.store (by decide) rfl ?_
  exact FlowT.nil
 ·intro V hV
  simp only [Dep, lQ]
  repeat rintro _ ⟨_, rfl, _⟩
  have HM := Lib.hid (H.out.next hV)
  obtain ⟨cR, zR, c18, z18⟩ := HKC.out _ hV
  clear hV
  intro K1 hK1
  go_simp
  refine hK1 undef _ ?_
  clear hK1 K1 cR zR c18 z18
  simp only [Act.put]
  generalize eA : World.setCell _ _ _ = WA
  have HM2 := Lib.hid (HM.out.putR d HD.out _ eA)
  have c18 := HM2.out.cell 18 (.int .u16 s.m.f) (fun _ _ => rfl)
  have z18 := HM2.out.frz 18
  clear eA
  intro K1 hK1
  go_simp
  refine hK1 undef _ ?_
  clear hK1 K1 c18 z18
  simp only [Act.put]
  unfold TailS
  have HM3 := Lib.hid (HM2.out.putF (subF 0 (s.m.R d) true) rfl)
  go_wp2_with fail
  exact ends (v := .tuple #[]) (by simp [results, Tryz.results30]) rfl ⟨rfl, HM3.out⟩
set_option maxRecDepth 8000 in
set_option maxHeartbeats 8000000 in
theorem not_z {b0 : Nat} {U V : World} {E : Env} {B g : Nat} {s : RSt} (h : RM b0 U E B g s V) (ok : s.m.Ok) (d : Nat) (hd : d < 8) : Calls Tryz.prog 30 #[.pointer (some ⟨B, 0, none⟩), .int .i64 19, .int .i64 (d : Int)] V (Leaves0 b0 U E B g { s with m := notM s.m d }) := by
 have H := Lib.hid h
 have HD := Lib.hid hd
 have d0 : (0 : Int) ≤ (d : Int) := by omega
 have d1 : (d : Int) < 8 := by omega
 have HA := Lib.hid (ok.R d)
 have HF := Lib.hid ok.f
 have HK : Hid (∀ s', s'.m.R d = s'.m.R d → ∀ V, RM b0 U E B g s' V → ∀ W, Below V.heap.size V W → W.cell? ⟨B, 7 + d, none⟩ = some (.int .u16 (s'.m.R d)) ∧ W.frozen? ⟨B, 7 + d, none⟩ = false ∧ W.cell? ⟨B, 18, none⟩ = some (.int .u16 s'.m.f) ∧ W.frozen? ⟨B, 18, none⟩ = false) := Lib.hid fun s' _ V h W hW => ⟨(h.next hW).cellR d hd, (h.next hW).frz (7 + d), (h.next hW).cell 18 _ (fun _ _ => rfl), (h.next hW).frz 18⟩
 have hw : IntKind.u16.wrap (65535 - s.m.R d) = 65535 - s.m.R d := by
  rw [IntKind.wrap_u16]
  have := HA.out.1
  have := HA.out.2
  omega
 obtain ⟨x, hx⟩ : ∃ x, 65535 - s.m.R d = x := ⟨_, rfl⟩
 have HX : Hid (OkU16 x) := Lib.hid (by
  have := HA.out.1
  have := HA.out.2
  rw [← hx]
  exact ⟨by omega, by omega⟩)
 have HXX := Lib.hid hx
 rw [hx] at hw
 have HKC := Lib.hid (HK.out s rfl V h)
 have HC := Lib.hid (fun w => rwith_any s.m.f x w HF.out.1 HF.out.2 HX.out.1 HX.out.2)
 clear h hd ok
 go_enter Tryz.func30, Tryz.ntmps30
 go_upto_region 2 with (fail)
 refine' wp_region_flowR [[], [], [], [], [(31, 2)], [(33, 4)], [(34, 5)], [(35, 6), (32, 3)], [(36, 7)], [(37, 8)], [(29, 0)], [(39, 10)], [(40, 11)], [(41, 12), (30, 1)], [(29, 0), (30, 1), (31, 2), (32, 3), (33, 4), (34, 5), (35, 6), (36, 7), (37, 8), (38, 9), (39, 10), (40, 11), (41, 12), (42, 13)]] (relL [eqV _, eqV _, eqV _, eqV _, eqV _, eqV _, eqV _, eqV _, eqV _, eqV _, eqV _, eqV _, eqV _, eqV _]) (by kernel_rfl) (by kernel_rfl) ?_
 rotate_left 14
 iterate 14
  refine FlowR.step ?_ ?_
  ·intro V hV
   simp only [Dep, lQ]
   repeat rintro _ ⟨_, rfl, _⟩
   intro K hK
   obtain ⟨cR, zR, _, _⟩ := HKC.out _ hV
   go_simp
   refine hK _ _ ?_ (Below.refl _ _)
   simp only [lR]
   exact rfl
 refine FlowR.last ?_
 intro V hV
 simp only [Dep, lQ]
 repeat rintro _ ⟨_, rfl, _⟩
 intro K hK
 obtain ⟨cR, zR, _, _⟩ := HKC.out _ hV
 go_simp
 refine hK _ _ ?_
 generalize eA : World.setCell _ _ _ = WA
 have HM2 := Lib.hid ((H.out.next hV).putR d HD.out x eA)
 clear eA hK hV cR zR
 have HKD := Lib.hid (HK.out _ rfl WA HM2.out)
 have hRd : setR s.m.R d x d = x := if_pos rfl
 have HRd := Lib.hid hRd
 clear hRd hx
 go_upto_region 3 with (fail)
 refine' wp_region_flowR [[], [], [(44, 1)], [(45, 2)], [(46, 3)], [(47, 4)], [], [], [(49, 6)], [(51, 8)], [(52, 9)], [(53, 10), (50, 7)], [(54, 11)], [(48, 5), (55, 12)], [(43, 0)], [(57, 14)], [(58, 15)], [(43, 0), (44, 1), (45, 2), (46, 3), (47, 4), (48, 5), (49, 6), (50, 7), (51, 8), (52, 9), (53, 10), (54, 11), (55, 12), (56, 13), (57, 14), (58, 15), (59, 16)]] (relL [eqV _, eqV _, eqV _, eqV _, eqV _, eqV _, eqV _, eqV _, eqV _, eqV _, eqV _, eqV _, eqV _, eqV _, eqV _, eqV _, eqV _]) (by kernel_rfl) (by kernel_rfl) ?_
 rotate_left 17
 iterate 13
  refine FlowR.step ?_ ?_
  ·intro V hV
   simp only [Dep, lQ]
   repeat rintro _ ⟨_, rfl, _⟩
   intro K hK
   obtain ⟨cR, _, c18, z18⟩ := HKD.out _ hV
   replace cR := cR.trans (by show some (Value.int .u16 (setR s.m.R d x d)) = some (.int .u16 x); rw [HRd.out])
   go_simp
   refine hK _ _ ?_ (Below.refl _ _)
   simp only [lR]
   exact rfl
 refine FlowR.step ?_ ?_
 ·intro V hV
  simp only [Dep, lQ]
  repeat rintro _ ⟨_, rfl, _⟩
  intro K hK
  obtain ⟨cR, _, c18, z18⟩ := HKD.out _ hV
  replace cR := cR.trans (by show some (Value.int .u16 (setR s.m.R d x d)) = some (.int .u16 x); rw [HRd.out])
  go_simp
  go_at_call 53
  refine (HC.out _).mono ?_
  rintro e w9 ⟨rfl, rfl⟩
  refine hK _ _ ?_ (Below.refl _ _)
  simp only [lR]
  exact rfl
 iterate 3
  refine FlowR.step ?_ ?_
  ·intro V hV
   simp only [Dep, lQ]
   repeat rintro _ ⟨_, rfl, _⟩
   intro K hK
   obtain ⟨cR, _, c18, z18⟩ := HKD.out _ hV
   replace cR := cR.trans (by show some (Value.int .u16 (setR s.m.R d x d)) = some (.int .u16 x); rw [HRd.out])
   go_simp
   refine hK _ _ ?_ (Below.refl _ _)
   simp only [lR]
   exact rfl
 refine FlowR.last ?_
 intro V hV
 simp only [Dep, lQ]
 repeat rintro _ ⟨_, rfl, _⟩
 intro K hK
 obtain ⟨cR, _, c18, z18⟩ := HKD.out _ hV
 replace cR := cR.trans (by show some (Value.int .u16 (setR s.m.R d x d)) = some (.int .u16 x); rw [HRd.out])
 go_simp
 refine hK _ _ ?_
 generalize eB : World.setCell _ _ _ = WB
 have HM3 := Lib.hid ((HM2.out.next hV).putF (withI s.m.f x) eB)
 clear eB hK hV cR c18 z18
 go_wp2_with fail
 exact ends (v := .tuple #[]) (by simp [results, Tryz.results30]) rfl ⟨rfl, by unfold notM setD; rw [HXX.out]; exact HM3.out⟩
end Go.Proofs.YtieaicdihingkaaGreat
