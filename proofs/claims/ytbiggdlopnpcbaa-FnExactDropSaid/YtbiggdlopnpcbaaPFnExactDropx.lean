/- The walk of what a law reaches, for the law's row: written by a program of this session; it has no condition of its own. -/
import Derived.Test.YtbiggdlopnpcbaaPFnExactDropx0
import Derived.Test.YtbiggdlopnpcbaaPFnExactDropx1
import Derived.Test.YtbiggdlopnpcbaaPFnExactDropx2
import Derived.Test.YtbiggdlopnpcbaaPFnExactDropx3
import Derived.Test.YtbiggdlopnpcbaaPFnExactDropx4
import Derived.Test.YtbiggdlopnpcbaaPFnExactDropx5
import Derived.Test.YtbiggdlopnpcbaaPFnExactDropx6
import Derived.Test.YtbiggdlopnpcbaaPFnExactDropx7p2
namespace Go.Proofs.Ytbiggdlopnpcbaa.PFnExactDrop
open Go.RowKit Go.Proofs.YtbiggdlopnpcbaaW.PrintWords Go.Proofs.YtbiggdlopnpcbaaW.PrintLast Go.Proofs.YtbiggdlopnpcbaaW.PrintMore
attribute [local go_sem] max2_int min2_int max_two min_two max_three min_three max_four min_four   -- for this text's walks alone
set_option linter.unusedVariables false
set_option linter.unusedSimpArgs false

end Go.Proofs.Ytbiggdlopnpcbaa.PFnExactDrop
