/- Printed by a program of ours (wip/tools) out of the translation: each function as a plain Lean function, and a proof that the call answers so. -/
import Derived.Test.YtmedojlhnpcniaaX0
import Derived.Test.YtmedojlhnpcniaaX1
import Derived.Test.YtmedojlhnpcniaaX2
import Derived.Test.YtmedojlhnpcniaaX3
import Derived.Test.YtmedojlhnpcniaaX4
import Derived.Test.YtmedojlhnpcniaaX5
import Derived.Test.YtmedojlhnpcniaaX6
import Derived.Test.YtmedojlhnpcniaaX7
import Derived.Test.YtmedojlhnpcniaaX8
import Derived.Test.YtmedojlhnpcniaaX9
import Derived.Test.YtmedojlhnpcniaaX10
import Derived.Test.YtmedojlhnpcniaaX11
import Derived.Test.YtmedojlhnpcniaaX12
import Derived.Test.YtmedojlhnpcniaaX13
import Derived.Test.YtmedojlhnpcniaaX14
import Derived.Test.YtmedojlhnpcniaaX15
import Derived.Test.YtmedojlhnpcniaaX16
import Derived.Test.YtmedojlhnpcniaaX17
import Derived.Test.YtmedojlhnpcniaaX18
namespace Go.Proofs.Ytmedojlhnpcniaa.X
open Go.RowKit Go.Proofs.YtmedojlhnpcniaaW.PrintWords Go.Proofs.YtmedojlhnpcniaaW.PrintLast Go.Proofs.YtmedojlhnpcniaaW.PrintMore
attribute [local go_sem] max2_int min2_int max_two min_two max_three min_three max_four min_four   -- for this text's walks alone
set_option linter.unusedVariables false
set_option linter.unusedSimpArgs false

end Go.Proofs.Ytmedojlhnpcniaa.X
