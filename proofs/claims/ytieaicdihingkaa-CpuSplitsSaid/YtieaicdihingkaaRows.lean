/-
  No cell of these rows narrows 'for every input' (looked for: loops, veiled, ifaces, maps, wideKeys, modest, calm, conditions, laid).
  DERIVED. THE GIVEN ROWS OF THIS SEAT. 7 by the template 'for every input the law returns true; each argument reads behind the call as it read before'; 0 by the template 'total and deterministic' (their statements: YtieaicdihingkaaTotals.lean).
  GIVEN WITH THE SEED: the statements are not yours to turn. If you find one false, say at which input.
  Laid BY PROGRAM, IN A SANDBOX (cutbox-rows.mjs): the forced cells as the released guide's own fill.sh prints them over the translation d1cf23a934fc7e36… (all of the seat's roots in one cut). By AI agents, Wed Nov 11 2026. No macro, syntax, notation, axiom, sorry.
-/
import Derived.Test.YtieaicdihingkaaChecked
import GoSem.Claim
import GoSem.ClaimJoined
import GoSem.ClaimMapViews
import Derived.JoinedTies
import Derived.KernelRfl
namespace Go.Proofs.Ytieaicdihingkaa
/- THE CELL 'sum', in the pinned program and in every row, IS THE sha256 OF THE DUMP (.gsa) THAT YtieaicdihingkaaProg.lean LOADS. Nothing in Lean hashes anything: it is a label: what it is worth is what the hold of that sum in a sandbox is worth. -/
noncomputable def Try.pinned : Pinned := { name := "ytieaicdihingkaa", sum := "d1cf23a934fc7e360deb13dc7d3e2dfdaee0476238ecfc9bb975e165aec7e51d", checked := Try.checked }
namespace Rows
def none {H : Type} : Left H := { results := [], args := [] }

/-- 'vellumlaw04.CpuStack': WHATEVER THE INPUT: true; the input reads as it did. -/
def cpuStackSpec : ChangeSpec := { name := "cpuStack", fn := fun _ => fun
  | [d1, d2] => { results := [.lit (.bool true)], args := [d1, d2] }
  | _ => none }
def cpuStackRow : OpenClaim := { program := "ytieaicdihingkaa", sum := "d1cf23a934fc7e360deb13dc7d3e2dfdaee0476238ecfc9bb975e165aec7e51d", func := "vellum/vellumlaw04.CpuStack", spec := "cpuStack", unfollowed := true, recurses := true, apart := false }
def CpuStackSaid : Prop := cpuStackRow.holds Try.pinned (OpenSpec.ofChange cpuStackSpec)

/-- ITS FALSE NEIGHBOUR: 'it returns false'. Refute it at one input. -/
def cpuStackWrong : ChangeSpec := { name := "cpuStack", fn := fun _ => fun
  | [d1, d2] => { results := [.lit (.bool false)], args := [d1, d2] }
  | _ => none }
def CpuStackWrongFalsely : Prop := cpuStackRow.holds Try.pinned (OpenSpec.ofChange cpuStackWrong)

/-- 'vellumlaw04.CpuPolls': WHATEVER THE INPUT: true; the input reads as it did. -/
def cpuPollsSpec : ChangeSpec := { name := "cpuPolls", fn := fun _ => fun
  | [d1, d2, d3] => { results := [.lit (.bool true)], args := [d1, d2, d3] }
  | _ => none }
def cpuPollsRow : OpenClaim := { program := "ytieaicdihingkaa", sum := "d1cf23a934fc7e360deb13dc7d3e2dfdaee0476238ecfc9bb975e165aec7e51d", func := "vellum/vellumlaw04.CpuPolls", spec := "cpuPolls", unfollowed := true, recurses := true, apart := false }
def CpuPollsSaid : Prop := cpuPollsRow.holds Try.pinned (OpenSpec.ofChange cpuPollsSpec)

/-- ITS FALSE NEIGHBOUR: 'it returns false'. Refute it at one input. -/
def cpuPollsWrong : ChangeSpec := { name := "cpuPolls", fn := fun _ => fun
  | [d1, d2, d3] => { results := [.lit (.bool false)], args := [d1, d2, d3] }
  | _ => none }
def CpuPollsWrongFalsely : Prop := cpuPollsRow.holds Try.pinned (OpenSpec.ofChange cpuPollsWrong)

/-- 'vellumlaw04.CpuPorts': WHATEVER THE INPUT: true; the input reads as it did. -/
def cpuPortsSpec : ChangeSpec := { name := "cpuPorts", fn := fun _ => fun
  | [d1, d2, d3] => { results := [.lit (.bool true)], args := [d1, d2, d3] }
  | _ => none }
def cpuPortsRow : OpenClaim := { program := "ytieaicdihingkaa", sum := "d1cf23a934fc7e360deb13dc7d3e2dfdaee0476238ecfc9bb975e165aec7e51d", func := "vellum/vellumlaw04.CpuPorts", spec := "cpuPorts", unfollowed := true, recurses := true, apart := false }
def CpuPortsSaid : Prop := cpuPortsRow.holds Try.pinned (OpenSpec.ofChange cpuPortsSpec)

/-- ITS FALSE NEIGHBOUR: 'it returns false'. Refute it at one input. -/
def cpuPortsWrong : ChangeSpec := { name := "cpuPorts", fn := fun _ => fun
  | [d1, d2, d3] => { results := [.lit (.bool false)], args := [d1, d2, d3] }
  | _ => none }
def CpuPortsWrongFalsely : Prop := cpuPortsRow.holds Try.pinned (OpenSpec.ofChange cpuPortsWrong)

/-- 'vellumlaw04.CpuArith': WHATEVER THE INPUT: true; the input reads as it did. -/
def cpuArithSpec : ChangeSpec := { name := "cpuArith", fn := fun _ => fun
  | [d1, d2, d3] => { results := [.lit (.bool true)], args := [d1, d2, d3] }
  | _ => none }
def cpuArithRow : OpenClaim := { program := "ytieaicdihingkaa", sum := "d1cf23a934fc7e360deb13dc7d3e2dfdaee0476238ecfc9bb975e165aec7e51d", func := "vellum/vellumlaw04.CpuArith", spec := "cpuArith", unfollowed := true, recurses := true, apart := false }
def CpuArithSaid : Prop := cpuArithRow.holds Try.pinned (OpenSpec.ofChange cpuArithSpec)

/-- ITS FALSE NEIGHBOUR: 'it returns false'. Refute it at one input. -/
def cpuArithWrong : ChangeSpec := { name := "cpuArith", fn := fun _ => fun
  | [d1, d2, d3] => { results := [.lit (.bool false)], args := [d1, d2, d3] }
  | _ => none }
def CpuArithWrongFalsely : Prop := cpuArithRow.holds Try.pinned (OpenSpec.ofChange cpuArithWrong)

/-- 'vellumlaw04.CpuCalls': WHATEVER THE INPUT: true; the input reads as it did. -/
def cpuCallsSpec : ChangeSpec := { name := "cpuCalls", fn := fun _ => fun
  | [d1, d2, d3] => { results := [.lit (.bool true)], args := [d1, d2, d3] }
  | _ => none }
def cpuCallsRow : OpenClaim := { program := "ytieaicdihingkaa", sum := "d1cf23a934fc7e360deb13dc7d3e2dfdaee0476238ecfc9bb975e165aec7e51d", func := "vellum/vellumlaw04.CpuCalls", spec := "cpuCalls", unfollowed := true, recurses := true, apart := false }
def CpuCallsSaid : Prop := cpuCallsRow.holds Try.pinned (OpenSpec.ofChange cpuCallsSpec)

/-- ITS FALSE NEIGHBOUR: 'it returns false'. Refute it at one input. -/
def cpuCallsWrong : ChangeSpec := { name := "cpuCalls", fn := fun _ => fun
  | [d1, d2, d3] => { results := [.lit (.bool false)], args := [d1, d2, d3] }
  | _ => none }
def CpuCallsWrongFalsely : Prop := cpuCallsRow.holds Try.pinned (OpenSpec.ofChange cpuCallsWrong)

/-- 'vellumlaw04.CpuSplits': WHATEVER THE INPUT: true; the input reads as it did. -/
def cpuSplitsSpec : ChangeSpec := { name := "cpuSplits", fn := fun _ => fun
  | [d1, d2] => { results := [.lit (.bool true)], args := [d1, d2] }
  | _ => none }
def cpuSplitsRow : OpenClaim := { program := "ytieaicdihingkaa", sum := "d1cf23a934fc7e360deb13dc7d3e2dfdaee0476238ecfc9bb975e165aec7e51d", func := "vellum/vellumlaw04.CpuSplits", spec := "cpuSplits", unfollowed := true, recurses := true, apart := false }
def CpuSplitsSaid : Prop := cpuSplitsRow.holds Try.pinned (OpenSpec.ofChange cpuSplitsSpec)

/-- ITS FALSE NEIGHBOUR: 'it returns false'. Refute it at one input. -/
def cpuSplitsWrong : ChangeSpec := { name := "cpuSplits", fn := fun _ => fun
  | [d1, d2] => { results := [.lit (.bool false)], args := [d1, d2] }
  | _ => none }
def CpuSplitsWrongFalsely : Prop := cpuSplitsRow.holds Try.pinned (OpenSpec.ofChange cpuSplitsWrong)

/-- 'vellumlaw04.CpuSame': WHATEVER THE INPUT: true; the input reads as it did. -/
def cpuSameSpec : ChangeSpec := { name := "cpuSame", fn := fun _ => fun
  | [d1, d2, d3] => { results := [.lit (.bool true)], args := [d1, d2, d3] }
  | _ => none }
def cpuSameRow : OpenClaim := { program := "ytieaicdihingkaa", sum := "d1cf23a934fc7e360deb13dc7d3e2dfdaee0476238ecfc9bb975e165aec7e51d", func := "vellum/vellumlaw04.CpuSame", spec := "cpuSame", unfollowed := true, recurses := true, apart := false }
def CpuSameSaid : Prop := cpuSameRow.holds Try.pinned (OpenSpec.ofChange cpuSameSpec)

/-- ITS FALSE NEIGHBOUR: 'it returns false'. Refute it at one input. -/
def cpuSameWrong : ChangeSpec := { name := "cpuSame", fn := fun _ => fun
  | [d1, d2, d3] => { results := [.lit (.bool false)], args := [d1, d2, d3] }
  | _ => none }
def CpuSameWrongFalsely : Prop := cpuSameRow.holds Try.pinned (OpenSpec.ofChange cpuSameWrong)

/- THE SECOND FORM. 'bulk': how many values and letters a reading holds, each counted each time it is reached (what is shared counts as often as it is met; a slice's spare places count too). A statement '..UptoSaid' is the law's where the arguments, and the package variables that the reading takes, are together of bulk at most 1048576: NARROWER than '..Said'. Prove '..Said' where nothing that the law and all that it calls make is longer than what came in: it says more and counts as full. Else prove '..UptoSaid'. A law counts once. -/
mutual
def uptoBulk {H : Type} : DataW H → Nat
  | .lit (.string bytes) => bytes.length + 1
  | .lit _ => 1
  | .nil => 1
  | .ptr d => uptoBulk d + 1
  | .slice elems spare => uptoBulkAll elems + uptoBulkAll spare + 1
  | .agg parts => uptoBulkAll parts + 1
  | .iface _ d => uptoBulk d + 1
  | .map entries => uptoBulkEntries entries + 1
  | .held _ => 1
def uptoBulkAll {H : Type} : List (DataW H) → Nat
  | [] => 0
  | d :: r => uptoBulk d + uptoBulkAll r
def uptoBulkEntries {H : Type} : List (Lit × DataW H) → Nat
  | [] => 0
  | x :: r => uptoBulkEntry x + uptoBulkEntries r
def uptoBulkEntry {H : Type} : Lit × DataW H → Nat
  | (.string bytes, d) => bytes.length + uptoBulk d + 1
  | (_, d) => uptoBulk d + 1
 end
def uptoSmall : (H : Type) → List (DataW H) → Bool := fun _ ds => decide (uptoBulkAll ds ≤ 1048576)
def OpenSpec.upto (s : _root_.Go.ChangeSpec) : _root_.Go.OpenSpec := { _root_.Go.OpenSpec.ofChange s with cond := some uptoSmall }

/-- 'vellumlaw04.CpuStack', WHERE WHAT IT READS IS OF BULK AT MOST 1048576: true; the input reads as it did. -/
def cpuStackUptoRow : OpenClaim := { program := "ytieaicdihingkaa", sum := "d1cf23a934fc7e360deb13dc7d3e2dfdaee0476238ecfc9bb975e165aec7e51d", func := "vellum/vellumlaw04.CpuStack", spec := "cpuStack", unfollowed := true, recurses := true, apart := false, narrowed := true }
def CpuStackUptoSaid : Prop := cpuStackUptoRow.holds Try.pinned (OpenSpec.upto cpuStackSpec)

/-- 'vellumlaw04.CpuPolls', WHERE WHAT IT READS IS OF BULK AT MOST 1048576: true; the input reads as it did. -/
def cpuPollsUptoRow : OpenClaim := { program := "ytieaicdihingkaa", sum := "d1cf23a934fc7e360deb13dc7d3e2dfdaee0476238ecfc9bb975e165aec7e51d", func := "vellum/vellumlaw04.CpuPolls", spec := "cpuPolls", unfollowed := true, recurses := true, apart := false, narrowed := true }
def CpuPollsUptoSaid : Prop := cpuPollsUptoRow.holds Try.pinned (OpenSpec.upto cpuPollsSpec)

/-- 'vellumlaw04.CpuPorts', WHERE WHAT IT READS IS OF BULK AT MOST 1048576: true; the input reads as it did. -/
def cpuPortsUptoRow : OpenClaim := { program := "ytieaicdihingkaa", sum := "d1cf23a934fc7e360deb13dc7d3e2dfdaee0476238ecfc9bb975e165aec7e51d", func := "vellum/vellumlaw04.CpuPorts", spec := "cpuPorts", unfollowed := true, recurses := true, apart := false, narrowed := true }
def CpuPortsUptoSaid : Prop := cpuPortsUptoRow.holds Try.pinned (OpenSpec.upto cpuPortsSpec)

/-- 'vellumlaw04.CpuArith', WHERE WHAT IT READS IS OF BULK AT MOST 1048576: true; the input reads as it did. -/
def cpuArithUptoRow : OpenClaim := { program := "ytieaicdihingkaa", sum := "d1cf23a934fc7e360deb13dc7d3e2dfdaee0476238ecfc9bb975e165aec7e51d", func := "vellum/vellumlaw04.CpuArith", spec := "cpuArith", unfollowed := true, recurses := true, apart := false, narrowed := true }
def CpuArithUptoSaid : Prop := cpuArithUptoRow.holds Try.pinned (OpenSpec.upto cpuArithSpec)

/-- 'vellumlaw04.CpuCalls', WHERE WHAT IT READS IS OF BULK AT MOST 1048576: true; the input reads as it did. -/
def cpuCallsUptoRow : OpenClaim := { program := "ytieaicdihingkaa", sum := "d1cf23a934fc7e360deb13dc7d3e2dfdaee0476238ecfc9bb975e165aec7e51d", func := "vellum/vellumlaw04.CpuCalls", spec := "cpuCalls", unfollowed := true, recurses := true, apart := false, narrowed := true }
def CpuCallsUptoSaid : Prop := cpuCallsUptoRow.holds Try.pinned (OpenSpec.upto cpuCallsSpec)

/-- 'vellumlaw04.CpuSplits', WHERE WHAT IT READS IS OF BULK AT MOST 1048576: true; the input reads as it did. -/
def cpuSplitsUptoRow : OpenClaim := { program := "ytieaicdihingkaa", sum := "d1cf23a934fc7e360deb13dc7d3e2dfdaee0476238ecfc9bb975e165aec7e51d", func := "vellum/vellumlaw04.CpuSplits", spec := "cpuSplits", unfollowed := true, recurses := true, apart := false, narrowed := true }
def CpuSplitsUptoSaid : Prop := cpuSplitsUptoRow.holds Try.pinned (OpenSpec.upto cpuSplitsSpec)

/-- 'vellumlaw04.CpuSame', WHERE WHAT IT READS IS OF BULK AT MOST 1048576: true; the input reads as it did. -/
def cpuSameUptoRow : OpenClaim := { program := "ytieaicdihingkaa", sum := "d1cf23a934fc7e360deb13dc7d3e2dfdaee0476238ecfc9bb975e165aec7e51d", func := "vellum/vellumlaw04.CpuSame", spec := "cpuSame", unfollowed := true, recurses := true, apart := false, narrowed := true }
def CpuSameUptoSaid : Prop := cpuSameUptoRow.holds Try.pinned (OpenSpec.upto cpuSameSpec)

end Rows
end Go.Proofs.Ytieaicdihingkaa
