/- image.Read of any string. -/
import Derived.Test.YtgdiaaoekkdibaaK1
import Derived.Test.YtgdiaaoekkdibaaP7
namespace Go.Proofs.Ytgdiaaoekkdibaa
set_option linter.unusedVariables false
open Go.RowKit
theorem read_any (s : ByteArray) (w : World) (hs : s.size ≤ maxLen) : Calls Try.prog 25 #[.string s] w (ReadPost s w) := by
  by_cases h0 : (headE s).2 = 0
  · by_cases h1 : s.size = stopA s + 2
    · exact readC_any s w hs h0 h1 _ (Lib.hid fun _ _ h => h)
    · exact readB_any s w hs h0 h1 _ (Lib.hid fun _ _ h => h)
  · exact readA_any s w hs h0 _ (Lib.hid fun _ _ h => h)
theorem img_oks {w : World} {p1 p2 p3 : Option Addr} {I : Img} (h : ImgAt w p1 p2 p3 I) : (∀ o ∈ I.data, o.ok) ∧ (∀ r ∈ I.relocs, r.ok) := by
  refine ⟨fun o ho => ?_, fun o ho => ?_⟩
  · obtain ⟨k, hk⟩ := List.mem_iff_getElem?.1 ho
    obtain ⟨_, _, _, _, _, _, ok⟩ := h.data k o hk
    exact ok
  · obtain ⟨k, hk⟩ := List.mem_iff_getElem?.1 ho
    obtain ⟨_, _, _, _, _, ok⟩ := h.relocs k o hk
    exact ok
theorem inverts_facts {w : World} {p1 p2 p3 : Option Addr} {I : Img} (h : ImgAt w p1 p2 p3 I) (hc : checkI I = 0) : checkI I = 0 ∧ bytesI I = fileI I ∧ readE (fileI I) = (0, 0) ∧ readI (fileI I) = I ∧ (fileI I).size ≤ maxLen := by
  obtain ⟨h1, h2⟩ := file_reads I hc h.entry.1 h.vector.1 (img_oks h).1 (img_oks h).2
  obtain ⟨v1, v2, hF, v3, v4, _⟩ := check_valid I hc
  refine ⟨hc, if_pos hc, h1, h2, ?_⟩
  rw [show (fileI I).size = (fileL I).length from rfl, fileL_len I hF]
  unfold maxLen; omega
end Go.Proofs.Ytgdiaaoekkdibaa
