/- The pure statement of NamesTell: whether a text is a name, a mark, and how it is quoted, are the document's answers. -/
import Derived.Test.YtghdnijdbmekjaaDoorUBase
import Derived.Test.YtghdnijdbmekjaaDoorUName
import Derived.Test.YtghdnijdbmekjaaDoorUQuote
import Derived.Test.YtghdnijdbmekjaaDoorUAwake1
set_option linter.unusedVariables false
set_option linter.unusedSimpArgs false
namespace Go.Proofs.YtghdnijdbmekjaaDoor.Pure
open Go.RowKit Go.Proofs.YtghdnijdbmekjaaDoorW.PrintWords Go.Proofs.YtghdnijdbmekjaaDoor.G
theorem NamesTell (s : ByteArray) : ∃ k, wickerlaw01_NamesTell.f k s = some true := by
  apply Ev.rounds
  unfold wickerlaw01_NamesTell.f
  by_cases h : (s.size : Int) > 500
  · exact Ev.pos h (Ev.bind awake1 (Ev.now _))
  · have hs : s.size ≤ 1000000000000 := by omega
    refine Ev.neg h (Ev.bind awake1 ?_)
    refine Ev.pos rfl (Ev.bind (name_f s hs) (Ev.bind (ref_name_f s hs) (Ev.pos (by simp) (Ev.got (mark_f s) (Ev.got (ref_mark_f s) (Ev.pos (by simp) ?_))))))
    exact Ev.got (quote_f s hs) (Ev.bind (ref_quote_f s hs) (ev_now fun k => by rw [ba_beq]; simp))
end Go.Proofs.YtghdnijdbmekjaaDoor.Pure
