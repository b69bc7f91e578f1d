/-
  No cell of these rows narrows 'for every input' (looked for: loops, veiled, ifaces, maps, wideKeys, modest, calm, conditions, laid).
  DERIVED. THE GIVEN ROWS OF THIS SEAT. 11 by the template 'for every input the law returns true; each argument reads behind the call as it read before'; 0 by the template 'total and deterministic' (their statements: YtgmiepahhmfaiaaTotals.lean).
  GIVEN WITH THE SEED: the statements are not yours to turn. If you find one false, say at which input.
  Laid BY PROGRAM, IN A SANDBOX (cutbox-rows.mjs): the forced cells as the released guide's own fill.sh prints them over the translation 5a3160f5a313ca1d… (all of the seat's roots in one cut). By AI agents, Wed Nov 11 2026. No macro, syntax, notation, axiom, sorry.
-/
import Derived.Test.YtgmiepahhmfaiaaChecked
import GoSem.Claim
import GoSem.ClaimJoined
import GoSem.ClaimMapViews
import Derived.JoinedTies
import Derived.KernelRfl
namespace Go.Proofs.Ytgmiepahhmfaiaa
/- THE CELL 'sum', in the pinned program and in every row, IS THE sha256 OF THE DUMP (.gsa) THAT YtgmiepahhmfaiaaProg.lean LOADS. Nothing in Lean hashes anything: it is a label: what it is worth is what the hold of that sum in a sandbox is worth. -/
noncomputable def Try.pinned : Pinned := { name := "ytgmiepahhmfaiaa", sum := "5a3160f5a313ca1ddcf7448dfaa8e513f4e83d98866e997d5eeef17389b6200b", checked := Try.checked }
namespace Rows
def none {H : Type} : Left H := { results := [], args := [] }

/-- 'vellumlaw01.WordAdds': WHATEVER THE INPUT: true; the input reads as it did. -/
def wordAddsSpec : ChangeSpec := { name := "wordAdds", fn := fun _ => fun
  | [d1, d2, d3] => { results := [.lit (.bool true)], args := [d1, d2, d3] }
  | _ => none }
def wordAddsRow : OpenClaim := { program := "ytgmiepahhmfaiaa", sum := "5a3160f5a313ca1ddcf7448dfaa8e513f4e83d98866e997d5eeef17389b6200b", func := "vellum/vellumlaw01.WordAdds", spec := "wordAdds", unfollowed := true, recurses := true, apart := false }
def WordAddsSaid : Prop := wordAddsRow.holds Try.pinned (OpenSpec.ofChange wordAddsSpec)

/-- ITS FALSE NEIGHBOUR: 'it returns false'. Refute it at one input. -/
def wordAddsWrong : ChangeSpec := { name := "wordAdds", fn := fun _ => fun
  | [d1, d2, d3] => { results := [.lit (.bool false)], args := [d1, d2, d3] }
  | _ => none }
def WordAddsWrongFalsely : Prop := wordAddsRow.holds Try.pinned (OpenSpec.ofChange wordAddsWrong)

/-- 'vellumlaw01.WordSubs': WHATEVER THE INPUT: true; the input reads as it did. -/
def wordSubsSpec : ChangeSpec := { name := "wordSubs", fn := fun _ => fun
  | [d1, d2, d3] => { results := [.lit (.bool true)], args := [d1, d2, d3] }
  | _ => none }
def wordSubsRow : OpenClaim := { program := "ytgmiepahhmfaiaa", sum := "5a3160f5a313ca1ddcf7448dfaa8e513f4e83d98866e997d5eeef17389b6200b", func := "vellum/vellumlaw01.WordSubs", spec := "wordSubs", unfollowed := true, recurses := true, apart := false }
def WordSubsSaid : Prop := wordSubsRow.holds Try.pinned (OpenSpec.ofChange wordSubsSpec)

/-- ITS FALSE NEIGHBOUR: 'it returns false'. Refute it at one input. -/
def wordSubsWrong : ChangeSpec := { name := "wordSubs", fn := fun _ => fun
  | [d1, d2, d3] => { results := [.lit (.bool false)], args := [d1, d2, d3] }
  | _ => none }
def WordSubsWrongFalsely : Prop := wordSubsRow.holds Try.pinned (OpenSpec.ofChange wordSubsWrong)

/-- 'vellumlaw01.WordBack': WHATEVER THE INPUT: true; the input reads as it did. -/
def wordBackSpec : ChangeSpec := { name := "wordBack", fn := fun _ => fun
  | [d1, d2, d3] => { results := [.lit (.bool true)], args := [d1, d2, d3] }
  | _ => none }
def wordBackRow : OpenClaim := { program := "ytgmiepahhmfaiaa", sum := "5a3160f5a313ca1ddcf7448dfaa8e513f4e83d98866e997d5eeef17389b6200b", func := "vellum/vellumlaw01.WordBack", spec := "wordBack", unfollowed := true, recurses := true, apart := false }
def WordBackSaid : Prop := wordBackRow.holds Try.pinned (OpenSpec.ofChange wordBackSpec)

/-- ITS FALSE NEIGHBOUR: 'it returns false'. Refute it at one input. -/
def wordBackWrong : ChangeSpec := { name := "wordBack", fn := fun _ => fun
  | [d1, d2, d3] => { results := [.lit (.bool false)], args := [d1, d2, d3] }
  | _ => none }
def WordBackWrongFalsely : Prop := wordBackRow.holds Try.pinned (OpenSpec.ofChange wordBackWrong)

/-- 'vellumlaw01.WordShifts': WHATEVER THE INPUT: true; the input reads as it did. -/
def wordShiftsSpec : ChangeSpec := { name := "wordShifts", fn := fun _ => fun
  | [d1, d2, d3] => { results := [.lit (.bool true)], args := [d1, d2, d3] }
  | _ => none }
def wordShiftsRow : OpenClaim := { program := "ytgmiepahhmfaiaa", sum := "5a3160f5a313ca1ddcf7448dfaa8e513f4e83d98866e997d5eeef17389b6200b", func := "vellum/vellumlaw01.WordShifts", spec := "wordShifts", unfollowed := true, recurses := true, apart := false }
def WordShiftsSaid : Prop := wordShiftsRow.holds Try.pinned (OpenSpec.ofChange wordShiftsSpec)

/-- ITS FALSE NEIGHBOUR: 'it returns false'. Refute it at one input. -/
def wordShiftsWrong : ChangeSpec := { name := "wordShifts", fn := fun _ => fun
  | [d1, d2, d3] => { results := [.lit (.bool false)], args := [d1, d2, d3] }
  | _ => none }
def WordShiftsWrongFalsely : Prop := wordShiftsRow.holds Try.pinned (OpenSpec.ofChange wordShiftsWrong)

/-- 'vellumlaw01.WordSums': WHATEVER THE INPUT: true; the input reads as it did. -/
def wordSumsSpec : ChangeSpec := { name := "wordSums", fn := fun _ => fun
  | [d1, d2, d3] => { results := [.lit (.bool true)], args := [d1, d2, d3] }
  | _ => none }
def wordSumsRow : OpenClaim := { program := "ytgmiepahhmfaiaa", sum := "5a3160f5a313ca1ddcf7448dfaa8e513f4e83d98866e997d5eeef17389b6200b", func := "vellum/vellumlaw01.WordSums", spec := "wordSums", unfollowed := true, recurses := true, apart := false }
def WordSumsSaid : Prop := wordSumsRow.holds Try.pinned (OpenSpec.ofChange wordSumsSpec)

/-- ITS FALSE NEIGHBOUR: 'it returns false'. Refute it at one input. -/
def wordSumsWrong : ChangeSpec := { name := "wordSums", fn := fun _ => fun
  | [d1, d2, d3] => { results := [.lit (.bool false)], args := [d1, d2, d3] }
  | _ => none }
def WordSumsWrongFalsely : Prop := wordSumsRow.holds Try.pinned (OpenSpec.ofChange wordSumsWrong)

/-- 'vellumlaw01.WordHalves': WHATEVER THE INPUT: true; the input reads as it did. -/
def wordHalvesSpec : ChangeSpec := { name := "wordHalves", fn := fun _ => fun
  | [d1, d2, d3] => { results := [.lit (.bool true)], args := [d1, d2, d3] }
  | _ => none }
def wordHalvesRow : OpenClaim := { program := "ytgmiepahhmfaiaa", sum := "5a3160f5a313ca1ddcf7448dfaa8e513f4e83d98866e997d5eeef17389b6200b", func := "vellum/vellumlaw01.WordHalves", spec := "wordHalves", unfollowed := true, recurses := true, apart := false }
def WordHalvesSaid : Prop := wordHalvesRow.holds Try.pinned (OpenSpec.ofChange wordHalvesSpec)

/-- ITS FALSE NEIGHBOUR: 'it returns false'. Refute it at one input. -/
def wordHalvesWrong : ChangeSpec := { name := "wordHalves", fn := fun _ => fun
  | [d1, d2, d3] => { results := [.lit (.bool false)], args := [d1, d2, d3] }
  | _ => none }
def WordHalvesWrongFalsely : Prop := wordHalvesRow.holds Try.pinned (OpenSpec.ofChange wordHalvesWrong)

/-- 'vellumlaw01.WordConds': WHATEVER THE INPUT: true; the input reads as it did. -/
def wordCondsSpec : ChangeSpec := { name := "wordConds", fn := fun _ => fun
  | [d1, d2] => { results := [.lit (.bool true)], args := [d1, d2] }
  | _ => none }
def wordCondsRow : OpenClaim := { program := "ytgmiepahhmfaiaa", sum := "5a3160f5a313ca1ddcf7448dfaa8e513f4e83d98866e997d5eeef17389b6200b", func := "vellum/vellumlaw01.WordConds", spec := "wordConds", unfollowed := true, recurses := true, apart := false }
def WordCondsSaid : Prop := wordCondsRow.holds Try.pinned (OpenSpec.ofChange wordCondsSpec)

/-- ITS FALSE NEIGHBOUR: 'it returns false'. Refute it at one input. -/
def wordCondsWrong : ChangeSpec := { name := "wordConds", fn := fun _ => fun
  | [d1, d2] => { results := [.lit (.bool false)], args := [d1, d2] }
  | _ => none }
def WordCondsWrongFalsely : Prop := wordCondsRow.holds Try.pinned (OpenSpec.ofChange wordCondsWrong)

/-- 'vellumlaw01.WordBytes': WHATEVER THE INPUT: true; the input reads as it did. -/
def wordBytesSpec : ChangeSpec := { name := "wordBytes", fn := fun _ => fun
  | [d1, d2, d3] => { results := [.lit (.bool true)], args := [d1, d2, d3] }
  | _ => none }
def wordBytesRow : OpenClaim := { program := "ytgmiepahhmfaiaa", sum := "5a3160f5a313ca1ddcf7448dfaa8e513f4e83d98866e997d5eeef17389b6200b", func := "vellum/vellumlaw01.WordBytes", spec := "wordBytes", unfollowed := true, recurses := true, apart := false }
def WordBytesSaid : Prop := wordBytesRow.holds Try.pinned (OpenSpec.ofChange wordBytesSpec)

/-- ITS FALSE NEIGHBOUR: 'it returns false'. Refute it at one input. -/
def wordBytesWrong : ChangeSpec := { name := "wordBytes", fn := fun _ => fun
  | [d1, d2, d3] => { results := [.lit (.bool false)], args := [d1, d2, d3] }
  | _ => none }
def WordBytesWrongFalsely : Prop := wordBytesRow.holds Try.pinned (OpenSpec.ofChange wordBytesWrong)

/-- 'vellumlaw01.WordCompares': WHATEVER THE INPUT: true; the input reads as it did. -/
def wordComparesSpec : ChangeSpec := { name := "wordCompares", fn := fun _ => fun
  | [d1, d2] => { results := [.lit (.bool true)], args := [d1, d2] }
  | _ => none }
def wordComparesRow : OpenClaim := { program := "ytgmiepahhmfaiaa", sum := "5a3160f5a313ca1ddcf7448dfaa8e513f4e83d98866e997d5eeef17389b6200b", func := "vellum/vellumlaw01.WordCompares", spec := "wordCompares", unfollowed := true, recurses := true, apart := false }
def WordComparesSaid : Prop := wordComparesRow.holds Try.pinned (OpenSpec.ofChange wordComparesSpec)

/-- ITS FALSE NEIGHBOUR: 'it returns false'. Refute it at one input. -/
def wordComparesWrong : ChangeSpec := { name := "wordCompares", fn := fun _ => fun
  | [d1, d2] => { results := [.lit (.bool false)], args := [d1, d2] }
  | _ => none }
def WordComparesWrongFalsely : Prop := wordComparesRow.holds Try.pinned (OpenSpec.ofChange wordComparesWrong)

/-- 'vellumlaw01.WordChains': WHATEVER THE INPUT: true; the input reads as it did. -/
def wordChainsSpec : ChangeSpec := { name := "wordChains", fn := fun _ => fun
  | [d1, d2] => { results := [.lit (.bool true)], args := [d1, d2] }
  | _ => none }
def wordChainsRow : OpenClaim := { program := "ytgmiepahhmfaiaa", sum := "5a3160f5a313ca1ddcf7448dfaa8e513f4e83d98866e997d5eeef17389b6200b", func := "vellum/vellumlaw01.WordChains", spec := "wordChains", unfollowed := true, recurses := true, apart := false }
def WordChainsSaid : Prop := wordChainsRow.holds Try.pinned (OpenSpec.ofChange wordChainsSpec)

/-- ITS FALSE NEIGHBOUR: 'it returns false'. Refute it at one input. -/
def wordChainsWrong : ChangeSpec := { name := "wordChains", fn := fun _ => fun
  | [d1, d2] => { results := [.lit (.bool false)], args := [d1, d2] }
  | _ => none }
def WordChainsWrongFalsely : Prop := wordChainsRow.holds Try.pinned (OpenSpec.ofChange wordChainsWrong)

/-- 'vellumlaw01.WordNames': WHATEVER THE INPUT: true; the input reads as it did. -/
def wordNamesSpec : ChangeSpec := { name := "wordNames", fn := fun _ => fun
  | [d1, d2] => { results := [.lit (.bool true)], args := [d1, d2] }
  | _ => none }
def wordNamesRow : OpenClaim := { program := "ytgmiepahhmfaiaa", sum := "5a3160f5a313ca1ddcf7448dfaa8e513f4e83d98866e997d5eeef17389b6200b", func := "vellum/vellumlaw01.WordNames", spec := "wordNames", unfollowed := true, recurses := true, apart := false }
def WordNamesSaid : Prop := wordNamesRow.holds Try.pinned (OpenSpec.ofChange wordNamesSpec)

/-- ITS FALSE NEIGHBOUR: 'it returns false'. Refute it at one input. -/
def wordNamesWrong : ChangeSpec := { name := "wordNames", fn := fun _ => fun
  | [d1, d2] => { results := [.lit (.bool false)], args := [d1, d2] }
  | _ => none }
def WordNamesWrongFalsely : Prop := wordNamesRow.holds Try.pinned (OpenSpec.ofChange wordNamesWrong)

/- THE SECOND FORM. 'bulk': how many values and letters a reading holds, each counted each time it is reached (what is shared counts as often as it is met; a slice's spare places count too). A statement '..UptoSaid' is the law's where the arguments, and the package variables that the reading takes, are together of bulk at most 1048576: NARROWER than '..Said'. Prove '..Said' where nothing that the law and all that it calls make is longer than what came in: it says more and counts as full. Else prove '..UptoSaid'. A law counts once. -/
mutual
def uptoBulk {H : Type} : DataW H → Nat
  | .lit (.string bytes) => bytes.length + 1
  | .lit _ => 1
  | .nil => 1
  | .ptr d => uptoBulk d + 1
  | .slice elems spare => uptoBulkAll elems + uptoBulkAll spare + 1
  | .agg parts => uptoBulkAll parts + 1
  | .iface _ d => uptoBulk d + 1
  | .map entries => uptoBulkEntries entries + 1
  | .held _ => 1
def uptoBulkAll {H : Type} : List (DataW H) → Nat
  | [] => 0
  | d :: r => uptoBulk d + uptoBulkAll r
def uptoBulkEntries {H : Type} : List (Lit × DataW H) → Nat
  | [] => 0
  | x :: r => uptoBulkEntry x + uptoBulkEntries r
def uptoBulkEntry {H : Type} : Lit × DataW H → Nat
  | (.string bytes, d) => bytes.length + uptoBulk d + 1
  | (_, d) => uptoBulk d + 1
 end
def uptoSmall : (H : Type) → List (DataW H) → Bool := fun _ ds => decide (uptoBulkAll ds ≤ 1048576)
def OpenSpec.upto (s : _root_.Go.ChangeSpec) : _root_.Go.OpenSpec := { _root_.Go.OpenSpec.ofChange s with cond := some uptoSmall }

/-- 'vellumlaw01.WordAdds', WHERE WHAT IT READS IS OF BULK AT MOST 1048576: true; the input reads as it did. -/
def wordAddsUptoRow : OpenClaim := { program := "ytgmiepahhmfaiaa", sum := "5a3160f5a313ca1ddcf7448dfaa8e513f4e83d98866e997d5eeef17389b6200b", func := "vellum/vellumlaw01.WordAdds", spec := "wordAdds", unfollowed := true, recurses := true, apart := false, narrowed := true }
def WordAddsUptoSaid : Prop := wordAddsUptoRow.holds Try.pinned (OpenSpec.upto wordAddsSpec)

/-- 'vellumlaw01.WordSubs', WHERE WHAT IT READS IS OF BULK AT MOST 1048576: true; the input reads as it did. -/
def wordSubsUptoRow : OpenClaim := { program := "ytgmiepahhmfaiaa", sum := "5a3160f5a313ca1ddcf7448dfaa8e513f4e83d98866e997d5eeef17389b6200b", func := "vellum/vellumlaw01.WordSubs", spec := "wordSubs", unfollowed := true, recurses := true, apart := false, narrowed := true }
def WordSubsUptoSaid : Prop := wordSubsUptoRow.holds Try.pinned (OpenSpec.upto wordSubsSpec)

/-- 'vellumlaw01.WordBack', WHERE WHAT IT READS IS OF BULK AT MOST 1048576: true; the input reads as it did. -/
def wordBackUptoRow : OpenClaim := { program := "ytgmiepahhmfaiaa", sum := "5a3160f5a313ca1ddcf7448dfaa8e513f4e83d98866e997d5eeef17389b6200b", func := "vellum/vellumlaw01.WordBack", spec := "wordBack", unfollowed := true, recurses := true, apart := false, narrowed := true }
def WordBackUptoSaid : Prop := wordBackUptoRow.holds Try.pinned (OpenSpec.upto wordBackSpec)

/-- 'vellumlaw01.WordShifts', WHERE WHAT IT READS IS OF BULK AT MOST 1048576: true; the input reads as it did. -/
def wordShiftsUptoRow : OpenClaim := { program := "ytgmiepahhmfaiaa", sum := "5a3160f5a313ca1ddcf7448dfaa8e513f4e83d98866e997d5eeef17389b6200b", func := "vellum/vellumlaw01.WordShifts", spec := "wordShifts", unfollowed := true, recurses := true, apart := false, narrowed := true }
def WordShiftsUptoSaid : Prop := wordShiftsUptoRow.holds Try.pinned (OpenSpec.upto wordShiftsSpec)

/-- 'vellumlaw01.WordSums', WHERE WHAT IT READS IS OF BULK AT MOST 1048576: true; the input reads as it did. -/
def wordSumsUptoRow : OpenClaim := { program := "ytgmiepahhmfaiaa", sum := "5a3160f5a313ca1ddcf7448dfaa8e513f4e83d98866e997d5eeef17389b6200b", func := "vellum/vellumlaw01.WordSums", spec := "wordSums", unfollowed := true, recurses := true, apart := false, narrowed := true }
def WordSumsUptoSaid : Prop := wordSumsUptoRow.holds Try.pinned (OpenSpec.upto wordSumsSpec)

/-- 'vellumlaw01.WordHalves', WHERE WHAT IT READS IS OF BULK AT MOST 1048576: true; the input reads as it did. -/
def wordHalvesUptoRow : OpenClaim := { program := "ytgmiepahhmfaiaa", sum := "5a3160f5a313ca1ddcf7448dfaa8e513f4e83d98866e997d5eeef17389b6200b", func := "vellum/vellumlaw01.WordHalves", spec := "wordHalves", unfollowed := true, recurses := true, apart := false, narrowed := true }
def WordHalvesUptoSaid : Prop := wordHalvesUptoRow.holds Try.pinned (OpenSpec.upto wordHalvesSpec)

/-- 'vellumlaw01.WordConds', WHERE WHAT IT READS IS OF BULK AT MOST 1048576: true; the input reads as it did. -/
def wordCondsUptoRow : OpenClaim := { program := "ytgmiepahhmfaiaa", sum := "5a3160f5a313ca1ddcf7448dfaa8e513f4e83d98866e997d5eeef17389b6200b", func := "vellum/vellumlaw01.WordConds", spec := "wordConds", unfollowed := true, recurses := true, apart := false, narrowed := true }
def WordCondsUptoSaid : Prop := wordCondsUptoRow.holds Try.pinned (OpenSpec.upto wordCondsSpec)

/-- 'vellumlaw01.WordBytes', WHERE WHAT IT READS IS OF BULK AT MOST 1048576: true; the input reads as it did. -/
def wordBytesUptoRow : OpenClaim := { program := "ytgmiepahhmfaiaa", sum := "5a3160f5a313ca1ddcf7448dfaa8e513f4e83d98866e997d5eeef17389b6200b", func := "vellum/vellumlaw01.WordBytes", spec := "wordBytes", unfollowed := true, recurses := true, apart := false, narrowed := true }
def WordBytesUptoSaid : Prop := wordBytesUptoRow.holds Try.pinned (OpenSpec.upto wordBytesSpec)

/-- 'vellumlaw01.WordCompares', WHERE WHAT IT READS IS OF BULK AT MOST 1048576: true; the input reads as it did. -/
def wordComparesUptoRow : OpenClaim := { program := "ytgmiepahhmfaiaa", sum := "5a3160f5a313ca1ddcf7448dfaa8e513f4e83d98866e997d5eeef17389b6200b", func := "vellum/vellumlaw01.WordCompares", spec := "wordCompares", unfollowed := true, recurses := true, apart := false, narrowed := true }
def WordComparesUptoSaid : Prop := wordComparesUptoRow.holds Try.pinned (OpenSpec.upto wordComparesSpec)

/-- 'vellumlaw01.WordChains', WHERE WHAT IT READS IS OF BULK AT MOST 1048576: true; the input reads as it did. -/
def wordChainsUptoRow : OpenClaim := { program := "ytgmiepahhmfaiaa", sum := "5a3160f5a313ca1ddcf7448dfaa8e513f4e83d98866e997d5eeef17389b6200b", func := "vellum/vellumlaw01.WordChains", spec := "wordChains", unfollowed := true, recurses := true, apart := false, narrowed := true }
def WordChainsUptoSaid : Prop := wordChainsUptoRow.holds Try.pinned (OpenSpec.upto wordChainsSpec)

/-- 'vellumlaw01.WordNames', WHERE WHAT IT READS IS OF BULK AT MOST 1048576: true; the input reads as it did. -/
def wordNamesUptoRow : OpenClaim := { program := "ytgmiepahhmfaiaa", sum := "5a3160f5a313ca1ddcf7448dfaa8e513f4e83d98866e997d5eeef17389b6200b", func := "vellum/vellumlaw01.WordNames", spec := "wordNames", unfollowed := true, recurses := true, apart := false, narrowed := true }
def WordNamesUptoSaid : Prop := wordNamesUptoRow.holds Try.pinned (OpenSpec.upto wordNamesSpec)

end Rows
end Go.Proofs.Ytgmiepahhmfaiaa
