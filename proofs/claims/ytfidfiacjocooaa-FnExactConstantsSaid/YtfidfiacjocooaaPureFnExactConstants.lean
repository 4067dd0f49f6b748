/-
The pure part of the statement FnExactConstants: what the printed functions answer is true at every input.
Conditions: none but the kinds' own bounds, as the printed statement has them.
-/
import Derived.Test.YtfidfiacjocooaaPFnExactConstantsx0
import Derived.Test.YtfidfiacjocooaaPFnExactConstantsx1
namespace Go.Proofs.Ytfidfiacjocooaa.Pure
open Go.RowKit Go.Proofs.Ytfidfiacjocooaa.PFnExactConstants Go.Proofs.YtfidfiacjocooaaW.PrintWords Go.Proofs.YtfidfiacjocooaaW.PrintLast Go.Proofs.YtfidfiacjocooaaW.PrintMore
set_option linter.unusedVariables false
set_option linter.unusedSimpArgs false

theorem FnExactConstants : laws_FnExactConstants.Pure := rfl

end Go.Proofs.Ytfidfiacjocooaa.Pure
