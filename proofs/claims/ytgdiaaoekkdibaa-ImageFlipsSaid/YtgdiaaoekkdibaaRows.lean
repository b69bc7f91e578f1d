/-
  No cell of these rows narrows 'for every input' (looked for: loops, veiled, ifaces, maps, wideKeys, modest, calm, conditions, laid).
  DERIVED. THE GIVEN ROWS OF THIS SEAT. 12 by the template 'for every input the law returns true; each argument reads behind the call as it read before'; 0 by the template 'total and deterministic' (their statements: YtgdiaaoekkdibaaTotals.lean).
  GIVEN WITH THE SEED: the statements are not yours to turn. If you find one false, say at which input.
  Laid BY PROGRAM, IN A SANDBOX (cutbox-rows.mjs): the forced cells as the released guide's own fill.sh prints them over the translation 9013c99738222f32… (all of the seat's roots in one cut). By AI agents, Wed Nov 11 2026. No macro, syntax, notation, axiom, sorry.
-/
import Derived.Test.YtgdiaaoekkdibaaChecked
import GoSem.Claim
import GoSem.ClaimJoined
import GoSem.ClaimMapViews
import Derived.JoinedTies
import Derived.KernelRfl
namespace Go.Proofs.Ytgdiaaoekkdibaa
/- THE CELL 'sum', in the pinned program and in every row, IS THE sha256 OF THE DUMP (.gsa) THAT YtgdiaaoekkdibaaProg.lean LOADS. Nothing in Lean hashes anything: it is a label: what it is worth is what the hold of that sum in a sandbox is worth. -/
noncomputable def Try.pinned : Pinned := { name := "ytgdiaaoekkdibaa", sum := "9013c99738222f32d79cb7cb196ef14207b8817a3712df61dbd34f4d8c9fe05a", checked := Try.checked }
namespace Rows
def none {H : Type} : Left H := { results := [], args := [] }

/-- 'vellumlaw03.ImageChecks': WHATEVER THE INPUT: true; the input reads as it did. -/
def imageChecksSpec : ChangeSpec := { name := "imageChecks", fn := fun _ => fun
  | [d1, d2, d3] => { results := [.lit (.bool true)], args := [d1, d2, d3] }
  | _ => none }
def imageChecksRow : OpenClaim := { program := "ytgdiaaoekkdibaa", sum := "9013c99738222f32d79cb7cb196ef14207b8817a3712df61dbd34f4d8c9fe05a", func := "vellum/vellumlaw03.ImageChecks", spec := "imageChecks", inPlace := ["internal/abi.NoEscape"], unfollowed := true, recurses := true, apart := false }
def ImageChecksSaid : Prop := imageChecksRow.holds Try.pinned (OpenSpec.ofChange imageChecksSpec)

/-- ITS FALSE NEIGHBOUR: 'it returns false'. Refute it at one input. -/
def imageChecksWrong : ChangeSpec := { name := "imageChecks", fn := fun _ => fun
  | [d1, d2, d3] => { results := [.lit (.bool false)], args := [d1, d2, d3] }
  | _ => none }
def ImageChecksWrongFalsely : Prop := imageChecksRow.holds Try.pinned (OpenSpec.ofChange imageChecksWrong)

/-- 'vellumlaw03.ImageLimits': WHATEVER THE INPUT: true; the input reads as it did. -/
def imageLimitsSpec : ChangeSpec := { name := "imageLimits", fn := fun _ => fun
  | [d1, d2, d3] => { results := [.lit (.bool true)], args := [d1, d2, d3] }
  | _ => none }
def imageLimitsRow : OpenClaim := { program := "ytgdiaaoekkdibaa", sum := "9013c99738222f32d79cb7cb196ef14207b8817a3712df61dbd34f4d8c9fe05a", func := "vellum/vellumlaw03.ImageLimits", spec := "imageLimits", inPlace := ["internal/abi.NoEscape"], unfollowed := true, recurses := true, apart := false }
def ImageLimitsSaid : Prop := imageLimitsRow.holds Try.pinned (OpenSpec.ofChange imageLimitsSpec)

/-- ITS FALSE NEIGHBOUR: 'it returns false'. Refute it at one input. -/
def imageLimitsWrong : ChangeSpec := { name := "imageLimits", fn := fun _ => fun
  | [d1, d2, d3] => { results := [.lit (.bool false)], args := [d1, d2, d3] }
  | _ => none }
def ImageLimitsWrongFalsely : Prop := imageLimitsRow.holds Try.pinned (OpenSpec.ofChange imageLimitsWrong)

/-- 'vellumlaw03.ImageBytes': WHATEVER THE INPUT: true; the input reads as it did. -/
def imageBytesSpec : ChangeSpec := { name := "imageBytes", fn := fun _ => fun
  | [d1, d2] => { results := [.lit (.bool true)], args := [d1, d2] }
  | _ => none }
def imageBytesRow : OpenClaim := { program := "ytgdiaaoekkdibaa", sum := "9013c99738222f32d79cb7cb196ef14207b8817a3712df61dbd34f4d8c9fe05a", func := "vellum/vellumlaw03.ImageBytes", spec := "imageBytes", inPlace := ["internal/abi.NoEscape"], unfollowed := true, recurses := true, apart := false }
def ImageBytesSaid : Prop := imageBytesRow.holds Try.pinned (OpenSpec.ofChange imageBytesSpec)

/-- ITS FALSE NEIGHBOUR: 'it returns false'. Refute it at one input. -/
def imageBytesWrong : ChangeSpec := { name := "imageBytes", fn := fun _ => fun
  | [d1, d2] => { results := [.lit (.bool false)], args := [d1, d2] }
  | _ => none }
def ImageBytesWrongFalsely : Prop := imageBytesRow.holds Try.pinned (OpenSpec.ofChange imageBytesWrong)

/-- 'vellumlaw03.ImageReads': WHATEVER THE INPUT: true; the input reads as it did. -/
def imageReadsSpec : ChangeSpec := { name := "imageReads", fn := fun _ => fun
  | [d1, d2, d3] => { results := [.lit (.bool true)], args := [d1, d2, d3] }
  | _ => none }
def imageReadsRow : OpenClaim := { program := "ytgdiaaoekkdibaa", sum := "9013c99738222f32d79cb7cb196ef14207b8817a3712df61dbd34f4d8c9fe05a", func := "vellum/vellumlaw03.ImageReads", spec := "imageReads", inPlace := ["internal/abi.NoEscape"], unfollowed := true, recurses := true, apart := false }
def ImageReadsSaid : Prop := imageReadsRow.holds Try.pinned (OpenSpec.ofChange imageReadsSpec)

/-- ITS FALSE NEIGHBOUR: 'it returns false'. Refute it at one input. -/
def imageReadsWrong : ChangeSpec := { name := "imageReads", fn := fun _ => fun
  | [d1, d2, d3] => { results := [.lit (.bool false)], args := [d1, d2, d3] }
  | _ => none }
def ImageReadsWrongFalsely : Prop := imageReadsRow.holds Try.pinned (OpenSpec.ofChange imageReadsWrong)

/-- 'vellumlaw03.ImageCuts': WHATEVER THE INPUT: true; the input reads as it did. -/
def imageCutsSpec : ChangeSpec := { name := "imageCuts", fn := fun _ => fun
  | [d1, d2] => { results := [.lit (.bool true)], args := [d1, d2] }
  | _ => none }
def imageCutsRow : OpenClaim := { program := "ytgdiaaoekkdibaa", sum := "9013c99738222f32d79cb7cb196ef14207b8817a3712df61dbd34f4d8c9fe05a", func := "vellum/vellumlaw03.ImageCuts", spec := "imageCuts", inPlace := ["internal/abi.NoEscape"], unfollowed := true, recurses := true, apart := false }
def ImageCutsSaid : Prop := imageCutsRow.holds Try.pinned (OpenSpec.ofChange imageCutsSpec)

/-- ITS FALSE NEIGHBOUR: 'it returns false'. Refute it at one input. -/
def imageCutsWrong : ChangeSpec := { name := "imageCuts", fn := fun _ => fun
  | [d1, d2] => { results := [.lit (.bool false)], args := [d1, d2] }
  | _ => none }
def ImageCutsWrongFalsely : Prop := imageCutsRow.holds Try.pinned (OpenSpec.ofChange imageCutsWrong)

/-- 'vellumlaw03.ImageFlips': WHATEVER THE INPUT: true; the input reads as it did. -/
def imageFlipsSpec : ChangeSpec := { name := "imageFlips", fn := fun _ => fun
  | [d1, d2, d3] => { results := [.lit (.bool true)], args := [d1, d2, d3] }
  | _ => none }
def imageFlipsRow : OpenClaim := { program := "ytgdiaaoekkdibaa", sum := "9013c99738222f32d79cb7cb196ef14207b8817a3712df61dbd34f4d8c9fe05a", func := "vellum/vellumlaw03.ImageFlips", spec := "imageFlips", inPlace := ["internal/abi.NoEscape"], unfollowed := true, recurses := true, apart := false }
def ImageFlipsSaid : Prop := imageFlipsRow.holds Try.pinned (OpenSpec.ofChange imageFlipsSpec)

/-- ITS FALSE NEIGHBOUR: 'it returns false'. Refute it at one input. -/
def imageFlipsWrong : ChangeSpec := { name := "imageFlips", fn := fun _ => fun
  | [d1, d2, d3] => { results := [.lit (.bool false)], args := [d1, d2, d3] }
  | _ => none }
def ImageFlipsWrongFalsely : Prop := imageFlipsRow.holds Try.pinned (OpenSpec.ofChange imageFlipsWrong)

/-- 'vellumlaw03.ImagePlaces': WHATEVER THE INPUT: true; the input reads as it did. -/
def imagePlacesSpec : ChangeSpec := { name := "imagePlaces", fn := fun _ => fun
  | [d1, d2, d3] => { results := [.lit (.bool true)], args := [d1, d2, d3] }
  | _ => none }
def imagePlacesRow : OpenClaim := { program := "ytgdiaaoekkdibaa", sum := "9013c99738222f32d79cb7cb196ef14207b8817a3712df61dbd34f4d8c9fe05a", func := "vellum/vellumlaw03.ImagePlaces", spec := "imagePlaces", inPlace := ["internal/abi.NoEscape"], unfollowed := true, recurses := true, apart := false }
def ImagePlacesSaid : Prop := imagePlacesRow.holds Try.pinned (OpenSpec.ofChange imagePlacesSpec)

/-- ITS FALSE NEIGHBOUR: 'it returns false'. Refute it at one input. -/
def imagePlacesWrong : ChangeSpec := { name := "imagePlaces", fn := fun _ => fun
  | [d1, d2, d3] => { results := [.lit (.bool false)], args := [d1, d2, d3] }
  | _ => none }
def ImagePlacesWrongFalsely : Prop := imagePlacesRow.holds Try.pinned (OpenSpec.ofChange imagePlacesWrong)

/-- 'vellumlaw03.ImageObjects': WHATEVER THE INPUT: true; the input reads as it did. -/
def imageObjectsSpec : ChangeSpec := { name := "imageObjects", fn := fun _ => fun
  | [d1, d2, d3] => { results := [.lit (.bool true)], args := [d1, d2, d3] }
  | _ => none }
def imageObjectsRow : OpenClaim := { program := "ytgdiaaoekkdibaa", sum := "9013c99738222f32d79cb7cb196ef14207b8817a3712df61dbd34f4d8c9fe05a", func := "vellum/vellumlaw03.ImageObjects", spec := "imageObjects", inPlace := ["internal/abi.NoEscape"], unfollowed := true, recurses := true, apart := false }
def ImageObjectsSaid : Prop := imageObjectsRow.holds Try.pinned (OpenSpec.ofChange imageObjectsSpec)

/-- ITS FALSE NEIGHBOUR: 'it returns false'. Refute it at one input. -/
def imageObjectsWrong : ChangeSpec := { name := "imageObjects", fn := fun _ => fun
  | [d1, d2, d3] => { results := [.lit (.bool false)], args := [d1, d2, d3] }
  | _ => none }
def ImageObjectsWrongFalsely : Prop := imageObjectsRow.holds Try.pinned (OpenSpec.ofChange imageObjectsWrong)

/-- 'vellumlaw03.ImageNexts': WHATEVER THE INPUT: true; the input reads as it did. -/
def imageNextsSpec : ChangeSpec := { name := "imageNexts", fn := fun _ => fun
  | [d1, d2, d3] => { results := [.lit (.bool true)], args := [d1, d2, d3] }
  | _ => none }
def imageNextsRow : OpenClaim := { program := "ytgdiaaoekkdibaa", sum := "9013c99738222f32d79cb7cb196ef14207b8817a3712df61dbd34f4d8c9fe05a", func := "vellum/vellumlaw03.ImageNexts", spec := "imageNexts", inPlace := ["internal/abi.NoEscape"], unfollowed := true, recurses := true, apart := false }
def ImageNextsSaid : Prop := imageNextsRow.holds Try.pinned (OpenSpec.ofChange imageNextsSpec)

/-- ITS FALSE NEIGHBOUR: 'it returns false'. Refute it at one input. -/
def imageNextsWrong : ChangeSpec := { name := "imageNexts", fn := fun _ => fun
  | [d1, d2, d3] => { results := [.lit (.bool false)], args := [d1, d2, d3] }
  | _ => none }
def ImageNextsWrongFalsely : Prop := imageNextsRow.holds Try.pinned (OpenSpec.ofChange imageNextsWrong)

/-- 'vellumlaw03.ImageInverts': WHATEVER THE INPUT: true; the input reads as it did. -/
def imageInvertsSpec : ChangeSpec := { name := "imageInverts", fn := fun _ => fun
  | [d] => { results := [.lit (.bool true)], args := [d] }
  | _ => none }
def imageInvertsRow : OpenClaim := { program := "ytgdiaaoekkdibaa", sum := "9013c99738222f32d79cb7cb196ef14207b8817a3712df61dbd34f4d8c9fe05a", func := "vellum/vellumlaw03.ImageInverts", spec := "imageInverts", inPlace := ["internal/abi.NoEscape"], unfollowed := true, recurses := true, apart := false }
def ImageInvertsSaid : Prop := imageInvertsRow.holds Try.pinned (OpenSpec.ofChange imageInvertsSpec)

/-- ITS FALSE NEIGHBOUR: 'it returns false'. Refute it at one input. -/
def imageInvertsWrong : ChangeSpec := { name := "imageInverts", fn := fun _ => fun
  | [d] => { results := [.lit (.bool false)], args := [d] }
  | _ => none }
def ImageInvertsWrongFalsely : Prop := imageInvertsRow.holds Try.pinned (OpenSpec.ofChange imageInvertsWrong)

/-- 'vellumlaw03.ImageSame': WHATEVER THE INPUT: true; the input reads as it did. -/
def imageSameSpec : ChangeSpec := { name := "imageSame", fn := fun _ => fun
  | [d1, d2, d3] => { results := [.lit (.bool true)], args := [d1, d2, d3] }
  | _ => none }
def imageSameRow : OpenClaim := { program := "ytgdiaaoekkdibaa", sum := "9013c99738222f32d79cb7cb196ef14207b8817a3712df61dbd34f4d8c9fe05a", func := "vellum/vellumlaw03.ImageSame", spec := "imageSame", inPlace := ["internal/abi.NoEscape"], unfollowed := true, recurses := true, apart := false }
def ImageSameSaid : Prop := imageSameRow.holds Try.pinned (OpenSpec.ofChange imageSameSpec)

/-- ITS FALSE NEIGHBOUR: 'it returns false'. Refute it at one input. -/
def imageSameWrong : ChangeSpec := { name := "imageSame", fn := fun _ => fun
  | [d1, d2, d3] => { results := [.lit (.bool false)], args := [d1, d2, d3] }
  | _ => none }
def ImageSameWrongFalsely : Prop := imageSameRow.holds Try.pinned (OpenSpec.ofChange imageSameWrong)

/-- 'vellumlaw03.ImageWrites': WHATEVER THE INPUT: true; the input reads as it did. -/
def imageWritesSpec : ChangeSpec := { name := "imageWrites", fn := fun _ => fun
  | [d1, d2, d3] => { results := [.lit (.bool true)], args := [d1, d2, d3] }
  | _ => none }
def imageWritesRow : OpenClaim := { program := "ytgdiaaoekkdibaa", sum := "9013c99738222f32d79cb7cb196ef14207b8817a3712df61dbd34f4d8c9fe05a", func := "vellum/vellumlaw03.ImageWrites", spec := "imageWrites", inPlace := ["internal/abi.NoEscape"], unfollowed := true, recurses := true, apart := false }
def ImageWritesSaid : Prop := imageWritesRow.holds Try.pinned (OpenSpec.ofChange imageWritesSpec)

/-- ITS FALSE NEIGHBOUR: 'it returns false'. Refute it at one input. -/
def imageWritesWrong : ChangeSpec := { name := "imageWrites", fn := fun _ => fun
  | [d1, d2, d3] => { results := [.lit (.bool false)], args := [d1, d2, d3] }
  | _ => none }
def ImageWritesWrongFalsely : Prop := imageWritesRow.holds Try.pinned (OpenSpec.ofChange imageWritesWrong)

/- THE SECOND FORM. 'bulk': how many values and letters a reading holds, each counted each time it is reached (what is shared counts as often as it is met; a slice's spare places count too). A statement '..UptoSaid' is the law's where the arguments, and the package variables that the reading takes, are together of bulk at most 1048576: NARROWER than '..Said'. Prove '..Said' where nothing that the law and all that it calls make is longer than what came in: it says more and counts as full. Else prove '..UptoSaid'. A law counts once. -/
mutual
def uptoBulk {H : Type} : DataW H → Nat
  | .lit (.string bytes) => bytes.length + 1
  | .lit _ => 1
  | .nil => 1
  | .ptr d => uptoBulk d + 1
  | .slice elems spare => uptoBulkAll elems + uptoBulkAll spare + 1
  | .agg parts => uptoBulkAll parts + 1
  | .iface _ d => uptoBulk d + 1
  | .map entries => uptoBulkEntries entries + 1
  | .held _ => 1
def uptoBulkAll {H : Type} : List (DataW H) → Nat
  | [] => 0
  | d :: r => uptoBulk d + uptoBulkAll r
def uptoBulkEntries {H : Type} : List (Lit × DataW H) → Nat
  | [] => 0
  | x :: r => uptoBulkEntry x + uptoBulkEntries r
def uptoBulkEntry {H : Type} : Lit × DataW H → Nat
  | (.string bytes, d) => bytes.length + uptoBulk d + 1
  | (_, d) => uptoBulk d + 1
 end
def uptoSmall : (H : Type) → List (DataW H) → Bool := fun _ ds => decide (uptoBulkAll ds ≤ 1048576)
def OpenSpec.upto (s : _root_.Go.ChangeSpec) : _root_.Go.OpenSpec := { _root_.Go.OpenSpec.ofChange s with cond := some uptoSmall }

/-- 'vellumlaw03.ImageChecks', WHERE WHAT IT READS IS OF BULK AT MOST 1048576: true; the input reads as it did. -/
def imageChecksUptoRow : OpenClaim := { program := "ytgdiaaoekkdibaa", sum := "9013c99738222f32d79cb7cb196ef14207b8817a3712df61dbd34f4d8c9fe05a", func := "vellum/vellumlaw03.ImageChecks", spec := "imageChecks", inPlace := ["internal/abi.NoEscape"], unfollowed := true, recurses := true, apart := false, narrowed := true }
def ImageChecksUptoSaid : Prop := imageChecksUptoRow.holds Try.pinned (OpenSpec.upto imageChecksSpec)

/-- 'vellumlaw03.ImageLimits', WHERE WHAT IT READS IS OF BULK AT MOST 1048576: true; the input reads as it did. -/
def imageLimitsUptoRow : OpenClaim := { program := "ytgdiaaoekkdibaa", sum := "9013c99738222f32d79cb7cb196ef14207b8817a3712df61dbd34f4d8c9fe05a", func := "vellum/vellumlaw03.ImageLimits", spec := "imageLimits", inPlace := ["internal/abi.NoEscape"], unfollowed := true, recurses := true, apart := false, narrowed := true }
def ImageLimitsUptoSaid : Prop := imageLimitsUptoRow.holds Try.pinned (OpenSpec.upto imageLimitsSpec)

/-- 'vellumlaw03.ImageBytes', WHERE WHAT IT READS IS OF BULK AT MOST 1048576: true; the input reads as it did. -/
def imageBytesUptoRow : OpenClaim := { program := "ytgdiaaoekkdibaa", sum := "9013c99738222f32d79cb7cb196ef14207b8817a3712df61dbd34f4d8c9fe05a", func := "vellum/vellumlaw03.ImageBytes", spec := "imageBytes", inPlace := ["internal/abi.NoEscape"], unfollowed := true, recurses := true, apart := false, narrowed := true }
def ImageBytesUptoSaid : Prop := imageBytesUptoRow.holds Try.pinned (OpenSpec.upto imageBytesSpec)

/-- 'vellumlaw03.ImageReads', WHERE WHAT IT READS IS OF BULK AT MOST 1048576: true; the input reads as it did. -/
def imageReadsUptoRow : OpenClaim := { program := "ytgdiaaoekkdibaa", sum := "9013c99738222f32d79cb7cb196ef14207b8817a3712df61dbd34f4d8c9fe05a", func := "vellum/vellumlaw03.ImageReads", spec := "imageReads", inPlace := ["internal/abi.NoEscape"], unfollowed := true, recurses := true, apart := false, narrowed := true }
def ImageReadsUptoSaid : Prop := imageReadsUptoRow.holds Try.pinned (OpenSpec.upto imageReadsSpec)

/-- 'vellumlaw03.ImageCuts', WHERE WHAT IT READS IS OF BULK AT MOST 1048576: true; the input reads as it did. -/
def imageCutsUptoRow : OpenClaim := { program := "ytgdiaaoekkdibaa", sum := "9013c99738222f32d79cb7cb196ef14207b8817a3712df61dbd34f4d8c9fe05a", func := "vellum/vellumlaw03.ImageCuts", spec := "imageCuts", inPlace := ["internal/abi.NoEscape"], unfollowed := true, recurses := true, apart := false, narrowed := true }
def ImageCutsUptoSaid : Prop := imageCutsUptoRow.holds Try.pinned (OpenSpec.upto imageCutsSpec)

/-- 'vellumlaw03.ImageFlips', WHERE WHAT IT READS IS OF BULK AT MOST 1048576: true; the input reads as it did. -/
def imageFlipsUptoRow : OpenClaim := { program := "ytgdiaaoekkdibaa", sum := "9013c99738222f32d79cb7cb196ef14207b8817a3712df61dbd34f4d8c9fe05a", func := "vellum/vellumlaw03.ImageFlips", spec := "imageFlips", inPlace := ["internal/abi.NoEscape"], unfollowed := true, recurses := true, apart := false, narrowed := true }
def ImageFlipsUptoSaid : Prop := imageFlipsUptoRow.holds Try.pinned (OpenSpec.upto imageFlipsSpec)

/-- 'vellumlaw03.ImagePlaces', WHERE WHAT IT READS IS OF BULK AT MOST 1048576: true; the input reads as it did. -/
def imagePlacesUptoRow : OpenClaim := { program := "ytgdiaaoekkdibaa", sum := "9013c99738222f32d79cb7cb196ef14207b8817a3712df61dbd34f4d8c9fe05a", func := "vellum/vellumlaw03.ImagePlaces", spec := "imagePlaces", inPlace := ["internal/abi.NoEscape"], unfollowed := true, recurses := true, apart := false, narrowed := true }
def ImagePlacesUptoSaid : Prop := imagePlacesUptoRow.holds Try.pinned (OpenSpec.upto imagePlacesSpec)

/-- 'vellumlaw03.ImageObjects', WHERE WHAT IT READS IS OF BULK AT MOST 1048576: true; the input reads as it did. -/
def imageObjectsUptoRow : OpenClaim := { program := "ytgdiaaoekkdibaa", sum := "9013c99738222f32d79cb7cb196ef14207b8817a3712df61dbd34f4d8c9fe05a", func := "vellum/vellumlaw03.ImageObjects", spec := "imageObjects", inPlace := ["internal/abi.NoEscape"], unfollowed := true, recurses := true, apart := false, narrowed := true }
def ImageObjectsUptoSaid : Prop := imageObjectsUptoRow.holds Try.pinned (OpenSpec.upto imageObjectsSpec)

/-- 'vellumlaw03.ImageNexts', WHERE WHAT IT READS IS OF BULK AT MOST 1048576: true; the input reads as it did. -/
def imageNextsUptoRow : OpenClaim := { program := "ytgdiaaoekkdibaa", sum := "9013c99738222f32d79cb7cb196ef14207b8817a3712df61dbd34f4d8c9fe05a", func := "vellum/vellumlaw03.ImageNexts", spec := "imageNexts", inPlace := ["internal/abi.NoEscape"], unfollowed := true, recurses := true, apart := false, narrowed := true }
def ImageNextsUptoSaid : Prop := imageNextsUptoRow.holds Try.pinned (OpenSpec.upto imageNextsSpec)

/-- 'vellumlaw03.ImageInverts', WHERE WHAT IT READS IS OF BULK AT MOST 1048576: true; the input reads as it did. -/
def imageInvertsUptoRow : OpenClaim := { program := "ytgdiaaoekkdibaa", sum := "9013c99738222f32d79cb7cb196ef14207b8817a3712df61dbd34f4d8c9fe05a", func := "vellum/vellumlaw03.ImageInverts", spec := "imageInverts", inPlace := ["internal/abi.NoEscape"], unfollowed := true, recurses := true, apart := false, narrowed := true }
def ImageInvertsUptoSaid : Prop := imageInvertsUptoRow.holds Try.pinned (OpenSpec.upto imageInvertsSpec)

/-- 'vellumlaw03.ImageSame', WHERE WHAT IT READS IS OF BULK AT MOST 1048576: true; the input reads as it did. -/
def imageSameUptoRow : OpenClaim := { program := "ytgdiaaoekkdibaa", sum := "9013c99738222f32d79cb7cb196ef14207b8817a3712df61dbd34f4d8c9fe05a", func := "vellum/vellumlaw03.ImageSame", spec := "imageSame", inPlace := ["internal/abi.NoEscape"], unfollowed := true, recurses := true, apart := false, narrowed := true }
def ImageSameUptoSaid : Prop := imageSameUptoRow.holds Try.pinned (OpenSpec.upto imageSameSpec)

/-- 'vellumlaw03.ImageWrites', WHERE WHAT IT READS IS OF BULK AT MOST 1048576: true; the input reads as it did. -/
def imageWritesUptoRow : OpenClaim := { program := "ytgdiaaoekkdibaa", sum := "9013c99738222f32d79cb7cb196ef14207b8817a3712df61dbd34f4d8c9fe05a", func := "vellum/vellumlaw03.ImageWrites", spec := "imageWrites", inPlace := ["internal/abi.NoEscape"], unfollowed := true, recurses := true, apart := false, narrowed := true }
def ImageWritesUptoSaid : Prop := imageWritesUptoRow.holds Try.pinned (OpenSpec.upto imageWritesSpec)

end Rows
end Go.Proofs.Ytgdiaaoekkdibaa
