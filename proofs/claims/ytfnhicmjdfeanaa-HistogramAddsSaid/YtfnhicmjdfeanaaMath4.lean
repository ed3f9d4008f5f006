/- The examples of the document hold. -/
import Derived.Test.YtfnhicmjdfeanaaMath3
import Derived.Test.YtfnhicmjdfeanaaPHx16
-- NEEDS H: sleuthlaw21_known
namespace Go.Proofs.Ytfnhicmjdfeanaa.PH
open Go.RowKit Go.Proofs.YtfnhicmjdfeanaaW.PrintWords Go.Proofs.YtfnhicmjdfeanaaW.PrintLast Go.Proofs.YtfnhicmjdfeanaaW.PrintMore
set_option linter.unusedVariables false
set_option maxRecDepth 1000000 in
theorem known_100 : sleuthlaw21_known.f 400 = some true := by decide +kernel
end Go.Proofs.Ytfnhicmjdfeanaa.PH
