import Derived.Test.YtioaingenooelaaGreatRx0
import Derived.Test.YtioaingenooelaaGreatRx1
import Derived.Test.YtioaingenooelaaGreatRx2
import Derived.Test.YtioaingenooelaaGreatRx3
import Derived.Test.YtioaingenooelaaGreatRx4
import Derived.Test.YtioaingenooelaaGreatRx5
import Derived.Test.YtioaingenooelaaGreatRx6
namespace Go.Proofs.YtioaingenooelaaGreat.L
open Go.RowKit Go.Proofs.YtioaingenooelaaGreatW.PrintWords Go.Proofs.YtioaingenooelaaGreatW.PrintLast Go.Proofs.YtioaingenooelaaGreatW.PrintMore
attribute [local go_sem] max2_int min2_int max_two min_two max_three min_three max_four min_four   -- for this text's walks alone
set_option linter.unusedVariables false
set_option linter.unusedSimpArgs false

end Go.Proofs.YtioaingenooelaaGreat.L
