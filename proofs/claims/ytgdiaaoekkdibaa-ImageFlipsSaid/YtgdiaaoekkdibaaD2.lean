/- The contract of the reference's Drawn: the four cases joined. -/
import Derived.Test.YtgdiaaoekkdibaaD1A
import Derived.Test.YtgdiaaoekkdibaaD1B
import Derived.Test.YtgdiaaoekkdibaaD1C
import Derived.Test.YtgdiaaoekkdibaaD1D
namespace Go.Proofs.Ytgdiaaoekkdibaa
set_option linter.unusedVariables false
open Go.RowKit
theorem drawn_any (ps : Option Addr) (cap : Nat) (L : List Int) (w : World) (hl : L.length ≤ 9223372036854775807) (hS : IntsAt w ps L) :
    Calls Try.prog 16 #[.slice ps L.length cap] w (DrawnPost w) := by
  by_cases h1 : L.length ≤ 20
  · exact drawnA ps cap L w hl h1 hS _ (fun _ _ h => h)
  by_cases h2 : L.length ≤ 24
  · exact drawnB ps cap L w hl ⟨by omega, h2⟩ hS _ (fun _ _ h => h)
  by_cases h3 : L.length ≤ 30
  · exact drawnC ps cap L w hl ⟨by omega, h3⟩ hS _ (fun _ _ h => h)
  · exact drawnD ps cap L w hl (by omega) hS _ (fun _ _ h => h)
end Go.Proofs.Ytgdiaaoekkdibaa
