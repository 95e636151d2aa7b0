/- WRITTEN BY A PROGRAM of this session (wip/tool: a turned copy of the printer), out of the translation: Lean functions with the answers of the Go functions, and the proofs that the Go code comes to them. -/
import Derived.Test.YtjmhfbgpebgcmaaDoorPNumReadsx0
import Derived.Test.YtjmhfbgpebgcmaaDoorPNumReadsx1
import Derived.Test.YtjmhfbgpebgcmaaDoorPNumReadsx2
import Derived.Test.YtjmhfbgpebgcmaaDoorPNumReadsx3
import Derived.Test.YtjmhfbgpebgcmaaDoorPNumReadsx4
import Derived.Test.YtjmhfbgpebgcmaaDoorPNumReadsx5
namespace Go.Proofs.YtjmhfbgpebgcmaaDoor.PNumReads
open Go.RowKit Go.Proofs.YtjmhfbgpebgcmaaDoorW.PrintWords Go.Proofs.YtjmhfbgpebgcmaaDoorW.PrintLast Go.Proofs.YtjmhfbgpebgcmaaDoorW.PrintMore
attribute [local go_sem] max2_int min2_int max_two min_two max_three min_three max_four min_four   -- for this text's walks alone
set_option linter.unusedVariables false
set_option linter.unusedSimpArgs false

end Go.Proofs.YtjmhfbgpebgcmaaDoor.PNumReads
