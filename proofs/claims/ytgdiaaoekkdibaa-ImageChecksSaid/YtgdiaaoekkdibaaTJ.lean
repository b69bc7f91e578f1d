/- The contract of the reference's Turned, whole. -/
import Derived.Test.YtgdiaaoekkdibaaT1
import Derived.Test.YtgdiaaoekkdibaaT2
import Derived.Test.YtgdiaaoekkdibaaT3
import Derived.Test.YtgdiaaoekkdibaaT4
import Derived.Test.YtgdiaaoekkdibaaT5
import Derived.Test.YtgdiaaoekkdibaaT6
import Derived.Test.YtgdiaaoekkdibaaT7
import Derived.Test.YtgdiaaoekkdibaaT8
namespace Go.Proofs.Ytgdiaaoekkdibaa
open Go.RowKit
theorem turned_any (p1 : Option Addr) (c1 : Nat) (p2 : Option Addr) (c2 : Nat) (p3 : Option Addr) (c3 : Nat) (I : Img) (x y z : Int) (w : World) (hI : ImgAt w p1 p2 p3 I) (hs : ∀ s ∈ I.banks, s.size ≤ 4096) (b1 : I.banks.length ≤ 100000) (b2 : I.data.length ≤ 100000) (b3 : I.relocs.length ≤ 100000) (hx : OkI64 x) (hy : OkI64 y) (hz : OkI64 z) (Rr : Ending → World → Prop) (HR : Hid (∀ e w', TurnedPost I w e w' → Rr e w')) :
    Calls Try.prog 17 #[imgV p1 c1 p2 c2 p3 c3 I, .agg #[.int .i64 x, .int .i64 y, .int .i64 z]] w Rr := by
  have h : x % 12 = 0 ∨ x % 12 = 1 ∨ x % 12 = 2 ∨ x % 12 = 3 ∨ x % 12 = 4 ∨ x % 12 = 5 ∨ x % 12 = 6 ∨ x % 12 = 7 ∨ x % 12 = 8 ∨ x % 12 = 9 ∨ x % 12 = 10 ∨ x % 12 = 11 := by omega
  rcases h with h | h | h | h | h | h | h | h | h | h | h | h
  · exact turned_0 p1 c1 p2 c2 p3 c3 I x y z w hI hs b1 b2 b3 hx hy hz h Rr HR
  · exact turned_1 p1 c1 p2 c2 p3 c3 I x y z w hI hs b1 b2 b3 hx hy hz h Rr HR
  · exact turned_2 p1 c1 p2 c2 p3 c3 I x y z w hI hs b1 b2 b3 hx hy hz h Rr HR
  · exact turned_3 p1 c1 p2 c2 p3 c3 I x y z w hI hs b1 b2 b3 hx hy hz h Rr HR
  · exact turned_4 p1 c1 p2 c2 p3 c3 I x y z w hI hs b1 b2 b3 hx hy hz h Rr HR
  · exact turned_5 p1 c1 p2 c2 p3 c3 I x y z w hI hs b1 b2 b3 hx hy hz h Rr HR
  · exact turned_6 p1 c1 p2 c2 p3 c3 I x y z w hI hs b1 b2 b3 hx hy hz h Rr HR
  · exact turned_7 p1 c1 p2 c2 p3 c3 I x y z w hI hs b1 b2 b3 hx hy hz h Rr HR
  · exact turned_8 p1 c1 p2 c2 p3 c3 I x y z w hI hs b1 b2 b3 hx hy hz h Rr HR
  · exact turned_9 p1 c1 p2 c2 p3 c3 I x y z w hI hs b1 b2 b3 hx hy hz h Rr HR
  · exact turned_10 p1 c1 p2 c2 p3 c3 I x y z w hI hs b1 b2 b3 hx hy hz h Rr HR
  · exact turned_11 p1 c1 p2 c2 p3 c3 I x y z w hI hs b1 b2 b3 hx hy hz h Rr HR
end Go.Proofs.Ytgdiaaoekkdibaa
