/- The pure statement of NamesUnquote: the mark with which a text begins, or what is wrong, is the document's answer. -/
import Derived.Test.YtghdnijdbmekjaaDoorUBase
import Derived.Test.YtghdnijdbmekjaaDoorUUnq
import Derived.Test.YtghdnijdbmekjaaDoorUUnq2
import Derived.Test.YtghdnijdbmekjaaDoorUAwake1
import Derived.Test.YtghdnijdbmekjaaDoorGx15
set_option linter.unusedVariables false
set_option linter.unusedSimpArgs false
namespace Go.Proofs.YtghdnijdbmekjaaDoor.Pure
open Go.RowKit Go.Proofs.YtghdnijdbmekjaaDoorW.PrintWords Go.Proofs.YtghdnijdbmekjaaDoor.G
theorem NamesUnquote (s : ByteArray) : ∃ k, wickerlaw01_NamesUnquote.f k s = some true := by
  apply Ev.rounds
  unfold wickerlaw01_NamesUnquote.f
  by_cases h : (s.size : Int) > 500
  · exact Ev.pos h (Ev.bind awake1 (Ev.now _))
  · have hs : s.size ≤ 1000000000000 := by omega
    refine Ev.neg h (Ev.bind (unquote_f s hs) (Ev.bind (ref_unquote_f s hs) (Ev.bind awake1 ?_)))
    exact Ev.pos rfl (Ev.pos rfl (Ev.pos rfl (ev_now fun k => by simp)))
end Go.Proofs.YtghdnijdbmekjaaDoor.Pure
