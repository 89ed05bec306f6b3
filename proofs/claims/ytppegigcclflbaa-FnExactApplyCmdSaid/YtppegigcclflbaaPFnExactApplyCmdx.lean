-- Written for this claim by the session's own program: the kit's print, some functions told by hand.
import Derived.Test.YtppegigcclflbaaPFnExactApplyCmdx0
import Derived.Test.YtppegigcclflbaaPFnExactApplyCmdx1
import Derived.Test.YtppegigcclflbaaPFnExactApplyCmdx2
import Derived.Test.YtppegigcclflbaaPFnExactApplyCmdx3
import Derived.Test.YtppegigcclflbaaPFnExactApplyCmdx4
import Derived.Test.YtppegigcclflbaaPFnExactApplyCmdx5
import Derived.Test.YtppegigcclflbaaPFnExactApplyCmdx6
namespace Go.Proofs.Ytppegigcclflbaa.PFnExactApplyCmd
open Go.RowKit Go.Proofs.YtppegigcclflbaaW.PrintWords Go.Proofs.YtppegigcclflbaaW.PrintLast Go.Proofs.YtppegigcclflbaaW.PrintMore
attribute [local go_sem] max2_int min2_int max_two min_two max_three min_three max_four min_four   -- for this text's walks alone
set_option linter.unusedVariables false
set_option linter.unusedSimpArgs false

end Go.Proofs.Ytppegigcclflbaa.PFnExactApplyCmd
