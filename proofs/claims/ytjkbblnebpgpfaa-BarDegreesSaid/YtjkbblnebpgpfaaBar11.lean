import Derived.Test.YtjkbblnebpgpfaaBar7
import Derived.Test.YtjkbblnebpgpfaaBar8
import Derived.Test.YtjkbblnebpgpfaaBarH
/- bar.Radical without a degree. -/
set_option linter.unusedVariables false
set_option linter.unusedSimpArgs false
namespace Go.Proofs.Ytjkbblnebpgpfaa.P
open Go.RowKit Go.Proofs.YtjkbblnebpgpfaaW.PrintWords Go.Proofs.YtjkbblnebpgpfaaW.PrintLast Go.Proofs.YtjkbblnebpgpfaaW.PrintMore

theorem rad_calls : RadCalls := by
  intro F c z b s Ab As nb ns cs w hF lb hb ls hs
  by_cases he : (radPre F c z b s).2 = 0
  · by_cases hq : (radPre F c z b s).1.1.1 < (radPre F c z b s).1.2.1
    · exact rad_gt F c z b s he hq Ab As nb ns cs w hF lb hb ls hs
    · exact rad_le F c z b s he (by omega) Ab As nb ns cs w hF lb hb ls hs
  · exact rad_err F c z b s he Ab As nb ns cs w hF lb hb ls hs
end Go.Proofs.Ytjkbblnebpgpfaa.P
