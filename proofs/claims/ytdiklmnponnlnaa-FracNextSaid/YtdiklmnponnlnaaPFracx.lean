-- laid by hprint.py (wip/): the kit's print, with contracts of this session
import Derived.Test.YtdiklmnponnlnaaPFracx0
import Derived.Test.YtdiklmnponnlnaaPFracx1
import Derived.Test.YtdiklmnponnlnaaPFracx2
import Derived.Test.YtdiklmnponnlnaaPFracx3
import Derived.Test.YtdiklmnponnlnaaPFracx4
import Derived.Test.YtdiklmnponnlnaaPFracx5
namespace Go.Proofs.Ytdiklmnponnlnaa.PFrac
open Go.RowKit Go.Proofs.YtdiklmnponnlnaaW.PrintWords Go.Proofs.YtdiklmnponnlnaaW.PrintLast Go.Proofs.YtdiklmnponnlnaaW.PrintMore
attribute [local go_sem] max2_int min2_int max_two min_two max_three min_three max_four min_four   -- for this text's walks alone
set_option linter.unusedVariables false
set_option linter.unusedSimpArgs false

end Go.Proofs.Ytdiklmnponnlnaa.PFrac
