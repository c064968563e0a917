/- EDUs: what is read. -/
import Derived.Test.YtnmpbpadpkgboaaE5
set_option linter.unusedVariables false
set_option linter.unusedSimpArgs false
set_option linter.unusedSectionVars false
namespace Go.Proofs.Ytnmpbpadpkgboaa
open Go Csl



end Go.Proofs.Ytnmpbpadpkgboaa
