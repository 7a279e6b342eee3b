-- PRINTED BY print.sh 35421559b90ae4d0a3588c463048766b98c2df88dd9212a6774a882060cdf62d: not written by this session
import Derived.Test.YthkheffilabhlaaPInterBoundsx0
import Derived.Test.YthkheffilabhlaaPInterBoundsx1
import Derived.Test.YthkheffilabhlaaPInterBoundsx2
import Derived.Test.YthkheffilabhlaaPInterBoundsx3
import Derived.Test.YthkheffilabhlaaPInterBoundsx4
import Derived.Test.YthkheffilabhlaaPInterBoundsx5
namespace Go.Proofs.Ythkheffilabhlaa.PInterBounds
open Go.RowKit Go.Proofs.YthkheffilabhlaaW.PrintWords Go.Proofs.YthkheffilabhlaaW.PrintLast Go.Proofs.YthkheffilabhlaaW.PrintMore
attribute [local go_sem] max2_int min2_int max_two min_two max_three min_three max_four min_four   -- for this text's walks alone
set_option linter.unusedVariables false
set_option linter.unusedSimpArgs false

end Go.Proofs.Ythkheffilabhlaa.PInterBounds
