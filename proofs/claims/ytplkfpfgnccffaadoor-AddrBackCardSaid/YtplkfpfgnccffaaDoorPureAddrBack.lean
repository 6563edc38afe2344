/- AddrBack over numbers and lists. -/
import Derived.Test.YtplkfpfgnccffaaDoorStAddrBack
import Derived.Test.YtplkfpfgnccffaaDoorAdRef
namespace Go.Proofs.YtplkfpfgnccffaaDoor.Pure
set_option linter.unusedVariables false
set_option linter.unusedSimpArgs false
open Go.RowKit Go.Proofs.YtplkfpfgnccffaaDoor.P Go.Proofs.YtplkfpfgnccffaaDoorW.PrintWords Go.Proofs.YtplkfpfgnccffaaDoorW.PrintLast Go.Proofs.YtplkfpfgnccffaaDoorW.PrintMore
theorem AddrBack : stolonlaw01_AddrBack.Pure := by
  intro x s hx hs
  refine ⟨1000, ?_⟩
  have h0 := u32_of hx
  obtain ⟨a, b, c, d, ha, hb, hc, hd, rfl, h4⟩ := addr_bytes h0.1 h0.2
  unfold stolonlaw01_AddrBack.f
  rw [shown_ok _ (by omega), Option.bind_some]
  by_cases h : (s.size : Int) > 100
  · rw [if_pos h]
  rw [if_neg h, text_ok ha hb hc hd, Option.bind_some, parse_text ha hb hc hd (textOf_data ha hb hc hd) _ (by omega), Option.bind_some, show addr_Bytes.f (valA a b c d) = some (bytes4 (valA a b c d)) from rfl, Option.bind_some, h4, of_ok ha hb hc hd _ (by omega), Option.bind_some]
  rcases (parses_same (s := s) (by omega) 1000 (by omega)).2 with h1 | ⟨a', b', c', d', ha', hb', hc', hd', hs', h1⟩
  · rw [h1, Option.bind_some, if_pos rfl, if_pos rfl, if_pos rfl, if_pos rfl, if_pos rfl, if_neg (by decide)]
    rfl
  · rw [h1, Option.bind_some, if_pos rfl, if_pos rfl, if_pos rfl, if_pos rfl, if_pos rfl, if_pos rfl, text_ok ha' hb' hc' hd', Option.bind_some, ByteArray.toList_eq, ByteArray.toList_eq, textOf_data ha' hb' hc' hd', hs', if_pos rfl]
end Go.Proofs.YtplkfpfgnccffaaDoor.Pure
