import Derived.Test.YtioaingenooelaaGreatAx0
import Derived.Test.YtioaingenooelaaGreatAx1
import Derived.Test.YtioaingenooelaaGreatAx2
import Derived.Test.YtioaingenooelaaGreatAx3
import Derived.Test.YtioaingenooelaaGreatAx4
import Derived.Test.YtioaingenooelaaGreatAx5
import Derived.Test.YtioaingenooelaaGreatAx6
namespace Go.Proofs.YtioaingenooelaaGreat.L
open Go.RowKit Go.Proofs.YtioaingenooelaaGreatW.PrintWords Go.Proofs.YtioaingenooelaaGreatW.PrintLast Go.Proofs.YtioaingenooelaaGreatW.PrintMore
attribute [local go_sem] max2_int min2_int max_two min_two max_three min_three max_four min_four   -- for this text's walks alone
set_option linter.unusedVariables false
set_option linter.unusedSimpArgs false

end Go.Proofs.YtioaingenooelaaGreat.L
