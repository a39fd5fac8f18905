import Derived.Test.YtbhljokhcmfgjaaBar16
import Derived.Test.YtbhljokhcmfgjaaBarH
/- bar.Radical without a degree, as BarB asks for it. -/
set_option linter.unusedVariables false
namespace Go.Proofs.Ytbhljokhcmfgjaa.P
open Go.RowKit Go.Proofs.YtbhljokhcmfgjaaW.PrintWords Go.Proofs.YtbhljokhcmfgjaaW.PrintLast Go.Proofs.YtbhljokhcmfgjaaW.PrintMore
theorem rad_calls0 : RadCalls := fun F c z b s Ab As nb ns cs w hF lb hb ls hs => radA_calls F c z b s Ab As none nb ns 0 cs w hF lb hb ls hs
end Go.Proofs.Ytbhljokhcmfgjaa.P
