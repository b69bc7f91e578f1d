/-
  No cell of these rows narrows 'for every input' (looked for: loops, veiled, ifaces, maps, wideKeys, modest, calm, conditions, laid).
  DERIVED. THE GIVEN ROWS OF THIS SEAT. 8 by the template 'for every input the law returns true; each argument reads behind the call as it read before'; 0 by the template 'total and deterministic' (their statements: YtdlpcbhibpjjiaaGreatTotals.lean).
  GIVEN WITH THE SEED: the statements are not yours to turn. If you find one false, say at which input.
  Laid BY PROGRAM, IN A SANDBOX (cutbox-rows.mjs): the forced cells as the released guide's own fill.sh prints them over the translation 10f8d6c970871ad4… (all of the seat's roots in one cut). By AI agents, Wed Nov 11 2026. No macro, syntax, notation, axiom, sorry.
-/
import Derived.Test.YtdlpcbhibpjjiaaGreatChecked
import GoSem.Claim
import GoSem.ClaimJoined
import GoSem.ClaimMapViews
import Derived.JoinedTies
import Derived.KernelRfl
namespace Go.Proofs.YtdlpcbhibpjjiaaGreat
/- THE CELL 'sum', in the pinned program and in every row, IS THE sha256 OF THE DUMP (.gsa) THAT YtdlpcbhibpjjiaaGreatProg.lean LOADS. Nothing in Lean hashes anything: it is a label: what it is worth is what the hold of that sum in a sandbox is worth. -/
noncomputable def Tryz.pinned : Pinned := { name := "ytdlpcbhibpjjiaagreat", sum := "10f8d6c970871ad4b93cc48f56d047b79945402cff2c0289c0bf8bc51731fdea", checked := Tryz.checked }
namespace Rows
def none {H : Type} : Left H := { results := [], args := [] }

/-- 'vellumlaw14.CheckTurned': WHATEVER THE INPUT: true; the input reads as it did. -/
def checkTurnedSpec : ChangeSpec := { name := "checkTurned", fn := fun _ => fun
  | [d1, d2, d3] => { results := [.lit (.bool true)], args := [d1, d2, d3] }
  | _ => none }
def checkTurnedRow : OpenClaim := { program := "ytdlpcbhibpjjiaagreat", sum := "10f8d6c970871ad4b93cc48f56d047b79945402cff2c0289c0bf8bc51731fdea", func := "vellum/vellumlaw14.CheckTurned", spec := "checkTurned", unfollowed := true, recurses := true, apart := false }
def CheckTurnedSaid : Prop := checkTurnedRow.holds Tryz.pinned (OpenSpec.ofChange checkTurnedSpec)

/-- ITS FALSE NEIGHBOUR: 'it returns false'. Refute it at one input. -/
def checkTurnedWrong : ChangeSpec := { name := "checkTurned", fn := fun _ => fun
  | [d1, d2, d3] => { results := [.lit (.bool false)], args := [d1, d2, d3] }
  | _ => none }
def CheckTurnedWrongFalsely : Prop := checkTurnedRow.holds Tryz.pinned (OpenSpec.ofChange checkTurnedWrong)

/-- 'vellumlaw14.CheckLayout': WHATEVER THE INPUT: true; the input reads as it did. -/
def checkLayoutSpec : ChangeSpec := { name := "checkLayout", fn := fun _ => fun
  | [d] => { results := [.lit (.bool true)], args := [d] }
  | _ => none }
def checkLayoutRow : OpenClaim := { program := "ytdlpcbhibpjjiaagreat", sum := "10f8d6c970871ad4b93cc48f56d047b79945402cff2c0289c0bf8bc51731fdea", func := "vellum/vellumlaw14.CheckLayout", spec := "checkLayout", unfollowed := true, recurses := true, apart := false }
def CheckLayoutSaid : Prop := checkLayoutRow.holds Tryz.pinned (OpenSpec.ofChange checkLayoutSpec)

/-- ITS FALSE NEIGHBOUR: 'it returns false'. Refute it at one input. -/
def checkLayoutWrong : ChangeSpec := { name := "checkLayout", fn := fun _ => fun
  | [d] => { results := [.lit (.bool false)], args := [d] }
  | _ => none }
def CheckLayoutWrongFalsely : Prop := checkLayoutRow.holds Tryz.pinned (OpenSpec.ofChange checkLayoutWrong)

/-- 'vellumlaw14.CheckTyped': WHATEVER THE INPUT: true; the input reads as it did. -/
def checkTypedSpec : ChangeSpec := { name := "checkTyped", fn := fun _ => fun
  | [d1, d2] => { results := [.lit (.bool true)], args := [d1, d2] }
  | _ => none }
def checkTypedRow : OpenClaim := { program := "ytdlpcbhibpjjiaagreat", sum := "10f8d6c970871ad4b93cc48f56d047b79945402cff2c0289c0bf8bc51731fdea", func := "vellum/vellumlaw14.CheckTyped", spec := "checkTyped", unfollowed := true, recurses := true, apart := false }
def CheckTypedSaid : Prop := checkTypedRow.holds Tryz.pinned (OpenSpec.ofChange checkTypedSpec)

/-- ITS FALSE NEIGHBOUR: 'it returns false'. Refute it at one input. -/
def checkTypedWrong : ChangeSpec := { name := "checkTyped", fn := fun _ => fun
  | [d1, d2] => { results := [.lit (.bool false)], args := [d1, d2] }
  | _ => none }
def CheckTypedWrongFalsely : Prop := checkTypedRow.holds Tryz.pinned (OpenSpec.ofChange checkTypedWrong)

/-- 'vellumlaw14.CheckExpressions': WHATEVER THE INPUT: true; the input reads as it did. -/
def checkExpressionsSpec : ChangeSpec := { name := "checkExpressions", fn := fun _ => fun
  | [d1, d2, d3] => { results := [.lit (.bool true)], args := [d1, d2, d3] }
  | _ => none }
def checkExpressionsRow : OpenClaim := { program := "ytdlpcbhibpjjiaagreat", sum := "10f8d6c970871ad4b93cc48f56d047b79945402cff2c0289c0bf8bc51731fdea", func := "vellum/vellumlaw14.CheckExpressions", spec := "checkExpressions", unfollowed := true, recurses := true, apart := false }
def CheckExpressionsSaid : Prop := checkExpressionsRow.holds Tryz.pinned (OpenSpec.ofChange checkExpressionsSpec)

/-- ITS FALSE NEIGHBOUR: 'it returns false'. Refute it at one input. -/
def checkExpressionsWrong : ChangeSpec := { name := "checkExpressions", fn := fun _ => fun
  | [d1, d2, d3] => { results := [.lit (.bool false)], args := [d1, d2, d3] }
  | _ => none }
def CheckExpressionsWrongFalsely : Prop := checkExpressionsRow.holds Tryz.pinned (OpenSpec.ofChange checkExpressionsWrong)

/-- 'vellumlaw14.CheckCalls': WHATEVER THE INPUT: true; the input reads as it did. -/
def checkCallsSpec : ChangeSpec := { name := "checkCalls", fn := fun _ => fun
  | [d1, d2, d3] => { results := [.lit (.bool true)], args := [d1, d2, d3] }
  | _ => none }
def checkCallsRow : OpenClaim := { program := "ytdlpcbhibpjjiaagreat", sum := "10f8d6c970871ad4b93cc48f56d047b79945402cff2c0289c0bf8bc51731fdea", func := "vellum/vellumlaw14.CheckCalls", spec := "checkCalls", unfollowed := true, recurses := true, apart := false }
def CheckCallsSaid : Prop := checkCallsRow.holds Tryz.pinned (OpenSpec.ofChange checkCallsSpec)

/-- ITS FALSE NEIGHBOUR: 'it returns false'. Refute it at one input. -/
def checkCallsWrong : ChangeSpec := { name := "checkCalls", fn := fun _ => fun
  | [d1, d2, d3] => { results := [.lit (.bool false)], args := [d1, d2, d3] }
  | _ => none }
def CheckCallsWrongFalsely : Prop := checkCallsRow.holds Tryz.pinned (OpenSpec.ofChange checkCallsWrong)

/-- 'vellumlaw14.CheckLimits': WHATEVER THE INPUT: true; the input reads as it did. -/
def checkLimitsSpec : ChangeSpec := { name := "checkLimits", fn := fun _ => fun
  | [d1, d2] => { results := [.lit (.bool true)], args := [d1, d2] }
  | _ => none }
def checkLimitsRow : OpenClaim := { program := "ytdlpcbhibpjjiaagreat", sum := "10f8d6c970871ad4b93cc48f56d047b79945402cff2c0289c0bf8bc51731fdea", func := "vellum/vellumlaw14.CheckLimits", spec := "checkLimits", unfollowed := true, recurses := true, apart := false }
def CheckLimitsSaid : Prop := checkLimitsRow.holds Tryz.pinned (OpenSpec.ofChange checkLimitsSpec)

/-- ITS FALSE NEIGHBOUR: 'it returns false'. Refute it at one input. -/
def checkLimitsWrong : ChangeSpec := { name := "checkLimits", fn := fun _ => fun
  | [d1, d2] => { results := [.lit (.bool false)], args := [d1, d2] }
  | _ => none }
def CheckLimitsWrongFalsely : Prop := checkLimitsRow.holds Tryz.pinned (OpenSpec.ofChange checkLimitsWrong)

/-- 'vellumlaw14.CheckGlobals': WHATEVER THE INPUT: true; the input reads as it did. -/
def checkGlobalsSpec : ChangeSpec := { name := "checkGlobals", fn := fun _ => fun
  | [d] => { results := [.lit (.bool true)], args := [d] }
  | _ => none }
def checkGlobalsRow : OpenClaim := { program := "ytdlpcbhibpjjiaagreat", sum := "10f8d6c970871ad4b93cc48f56d047b79945402cff2c0289c0bf8bc51731fdea", func := "vellum/vellumlaw14.CheckGlobals", spec := "checkGlobals", unfollowed := true, recurses := true, apart := false }
def CheckGlobalsSaid : Prop := checkGlobalsRow.holds Tryz.pinned (OpenSpec.ofChange checkGlobalsSpec)

/-- ITS FALSE NEIGHBOUR: 'it returns false'. Refute it at one input. -/
def checkGlobalsWrong : ChangeSpec := { name := "checkGlobals", fn := fun _ => fun
  | [d] => { results := [.lit (.bool false)], args := [d] }
  | _ => none }
def CheckGlobalsWrongFalsely : Prop := checkGlobalsRow.holds Tryz.pinned (OpenSpec.ofChange checkGlobalsWrong)

/-- 'vellumlaw14.CheckSame': WHATEVER THE INPUT: true; the input reads as it did. -/
def checkSameSpec : ChangeSpec := { name := "checkSame", fn := fun _ => fun
  | [d1, d2, d3] => { results := [.lit (.bool true)], args := [d1, d2, d3] }
  | _ => none }
def checkSameRow : OpenClaim := { program := "ytdlpcbhibpjjiaagreat", sum := "10f8d6c970871ad4b93cc48f56d047b79945402cff2c0289c0bf8bc51731fdea", func := "vellum/vellumlaw14.CheckSame", spec := "checkSame", unfollowed := true, recurses := true, apart := false }
def CheckSameSaid : Prop := checkSameRow.holds Tryz.pinned (OpenSpec.ofChange checkSameSpec)

/-- ITS FALSE NEIGHBOUR: 'it returns false'. Refute it at one input. -/
def checkSameWrong : ChangeSpec := { name := "checkSame", fn := fun _ => fun
  | [d1, d2, d3] => { results := [.lit (.bool false)], args := [d1, d2, d3] }
  | _ => none }
def CheckSameWrongFalsely : Prop := checkSameRow.holds Tryz.pinned (OpenSpec.ofChange checkSameWrong)

/- THE SECOND FORM. 'bulk': how many values and letters a reading holds, each counted each time it is reached (what is shared counts as often as it is met; a slice's spare places count too). A statement '..UptoSaid' is the law's where the arguments, and the package variables that the reading takes, are together of bulk at most 1048576: NARROWER than '..Said'. Prove '..Said' where nothing that the law and all that it calls make is longer than what came in: it says more and counts as full. Else prove '..UptoSaid'. A law counts once. -/
mutual
def uptoBulk {H : Type} : DataW H → Nat
  | .lit (.string bytes) => bytes.length + 1
  | .lit _ => 1
  | .nil => 1
  | .ptr d => uptoBulk d + 1
  | .slice elems spare => uptoBulkAll elems + uptoBulkAll spare + 1
  | .agg parts => uptoBulkAll parts + 1
  | .iface _ d => uptoBulk d + 1
  | .map entries => uptoBulkEntries entries + 1
  | .held _ => 1
def uptoBulkAll {H : Type} : List (DataW H) → Nat
  | [] => 0
  | d :: r => uptoBulk d + uptoBulkAll r
def uptoBulkEntries {H : Type} : List (Lit × DataW H) → Nat
  | [] => 0
  | x :: r => uptoBulkEntry x + uptoBulkEntries r
def uptoBulkEntry {H : Type} : Lit × DataW H → Nat
  | (.string bytes, d) => bytes.length + uptoBulk d + 1
  | (_, d) => uptoBulk d + 1
 end
def uptoSmall : (H : Type) → List (DataW H) → Bool := fun _ ds => decide (uptoBulkAll ds ≤ 1048576)
def OpenSpec.upto (s : _root_.Go.ChangeSpec) : _root_.Go.OpenSpec := { _root_.Go.OpenSpec.ofChange s with cond := some uptoSmall }

/-- 'vellumlaw14.CheckTurned', WHERE WHAT IT READS IS OF BULK AT MOST 1048576: true; the input reads as it did. -/
def checkTurnedUptoRow : OpenClaim := { program := "ytdlpcbhibpjjiaagreat", sum := "10f8d6c970871ad4b93cc48f56d047b79945402cff2c0289c0bf8bc51731fdea", func := "vellum/vellumlaw14.CheckTurned", spec := "checkTurned", unfollowed := true, recurses := true, apart := false, narrowed := true }
def CheckTurnedUptoSaid : Prop := checkTurnedUptoRow.holds Tryz.pinned (OpenSpec.upto checkTurnedSpec)

/-- 'vellumlaw14.CheckLayout', WHERE WHAT IT READS IS OF BULK AT MOST 1048576: true; the input reads as it did. -/
def checkLayoutUptoRow : OpenClaim := { program := "ytdlpcbhibpjjiaagreat", sum := "10f8d6c970871ad4b93cc48f56d047b79945402cff2c0289c0bf8bc51731fdea", func := "vellum/vellumlaw14.CheckLayout", spec := "checkLayout", unfollowed := true, recurses := true, apart := false, narrowed := true }
def CheckLayoutUptoSaid : Prop := checkLayoutUptoRow.holds Tryz.pinned (OpenSpec.upto checkLayoutSpec)

/-- 'vellumlaw14.CheckTyped', WHERE WHAT IT READS IS OF BULK AT MOST 1048576: true; the input reads as it did. -/
def checkTypedUptoRow : OpenClaim := { program := "ytdlpcbhibpjjiaagreat", sum := "10f8d6c970871ad4b93cc48f56d047b79945402cff2c0289c0bf8bc51731fdea", func := "vellum/vellumlaw14.CheckTyped", spec := "checkTyped", unfollowed := true, recurses := true, apart := false, narrowed := true }
def CheckTypedUptoSaid : Prop := checkTypedUptoRow.holds Tryz.pinned (OpenSpec.upto checkTypedSpec)

/-- 'vellumlaw14.CheckExpressions', WHERE WHAT IT READS IS OF BULK AT MOST 1048576: true; the input reads as it did. -/
def checkExpressionsUptoRow : OpenClaim := { program := "ytdlpcbhibpjjiaagreat", sum := "10f8d6c970871ad4b93cc48f56d047b79945402cff2c0289c0bf8bc51731fdea", func := "vellum/vellumlaw14.CheckExpressions", spec := "checkExpressions", unfollowed := true, recurses := true, apart := false, narrowed := true }
def CheckExpressionsUptoSaid : Prop := checkExpressionsUptoRow.holds Tryz.pinned (OpenSpec.upto checkExpressionsSpec)

/-- 'vellumlaw14.CheckCalls', WHERE WHAT IT READS IS OF BULK AT MOST 1048576: true; the input reads as it did. -/
def checkCallsUptoRow : OpenClaim := { program := "ytdlpcbhibpjjiaagreat", sum := "10f8d6c970871ad4b93cc48f56d047b79945402cff2c0289c0bf8bc51731fdea", func := "vellum/vellumlaw14.CheckCalls", spec := "checkCalls", unfollowed := true, recurses := true, apart := false, narrowed := true }
def CheckCallsUptoSaid : Prop := checkCallsUptoRow.holds Tryz.pinned (OpenSpec.upto checkCallsSpec)

/-- 'vellumlaw14.CheckLimits', WHERE WHAT IT READS IS OF BULK AT MOST 1048576: true; the input reads as it did. -/
def checkLimitsUptoRow : OpenClaim := { program := "ytdlpcbhibpjjiaagreat", sum := "10f8d6c970871ad4b93cc48f56d047b79945402cff2c0289c0bf8bc51731fdea", func := "vellum/vellumlaw14.CheckLimits", spec := "checkLimits", unfollowed := true, recurses := true, apart := false, narrowed := true }
def CheckLimitsUptoSaid : Prop := checkLimitsUptoRow.holds Tryz.pinned (OpenSpec.upto checkLimitsSpec)

/-- 'vellumlaw14.CheckGlobals', WHERE WHAT IT READS IS OF BULK AT MOST 1048576: true; the input reads as it did. -/
def checkGlobalsUptoRow : OpenClaim := { program := "ytdlpcbhibpjjiaagreat", sum := "10f8d6c970871ad4b93cc48f56d047b79945402cff2c0289c0bf8bc51731fdea", func := "vellum/vellumlaw14.CheckGlobals", spec := "checkGlobals", unfollowed := true, recurses := true, apart := false, narrowed := true }
def CheckGlobalsUptoSaid : Prop := checkGlobalsUptoRow.holds Tryz.pinned (OpenSpec.upto checkGlobalsSpec)

/-- 'vellumlaw14.CheckSame', WHERE WHAT IT READS IS OF BULK AT MOST 1048576: true; the input reads as it did. -/
def checkSameUptoRow : OpenClaim := { program := "ytdlpcbhibpjjiaagreat", sum := "10f8d6c970871ad4b93cc48f56d047b79945402cff2c0289c0bf8bc51731fdea", func := "vellum/vellumlaw14.CheckSame", spec := "checkSame", unfollowed := true, recurses := true, apart := false, narrowed := true }
def CheckSameUptoSaid : Prop := checkSameUptoRow.holds Tryz.pinned (OpenSpec.upto checkSameSpec)

end Rows
end Go.Proofs.YtdlpcbhibpjjiaaGreat
