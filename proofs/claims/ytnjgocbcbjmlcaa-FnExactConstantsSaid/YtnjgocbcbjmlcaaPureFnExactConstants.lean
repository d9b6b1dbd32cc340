/- The plain form of FnExactConstants: for all arguments the answer is true. It holds without a condition. -/
import Derived.Test.YtnjgocbcbjmlcaaPFnExactConstantsx1
import Derived.OpenShut
namespace Go.Proofs.Ytnjgocbcbjmlcaa.Pure
open Go Go.RowKit Go.Proofs.Ytnjgocbcbjmlcaa.PFnExactConstants Go.Proofs.YtnjgocbcbjmlcaaW.PrintWords Go.Proofs.YtnjgocbcbjmlcaaW.PrintLast Go.Proofs.YtnjgocbcbjmlcaaW.PrintMore
set_option linter.unusedVariables false
set_option linter.unusedSimpArgs false

theorem FnExactConstants : laws_FnExactConstants.Pure := by
  unfold laws_FnExactConstants.Pure laws_FnExactConstants.f
  rfl

end Go.Proofs.Ytnjgocbcbjmlcaa.Pure
