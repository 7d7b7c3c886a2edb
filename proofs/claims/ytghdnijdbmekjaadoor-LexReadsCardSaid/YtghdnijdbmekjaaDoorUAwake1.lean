/- The document's examples of layer 1 come true. -/
import Derived.Test.YtghdnijdbmekjaaDoorUBase
import Derived.Test.YtghdnijdbmekjaaDoorGx15
set_option linter.unusedVariables false
set_option linter.unusedSimpArgs false
namespace Go.Proofs.YtghdnijdbmekjaaDoor.Pure
open Go.RowKit Go.Proofs.YtghdnijdbmekjaaDoorW.PrintWords Go.Proofs.YtghdnijdbmekjaaDoor.G
theorem awake1_at : wickerlaw01_Awake.f 20 = some true := by kernel_rfl
theorem awake1 : Ev wickerlaw01_Awake.f true := Ev.of wickerlaw01_Awake.mono awake1_at
end Go.Proofs.YtghdnijdbmekjaaDoor.Pure
