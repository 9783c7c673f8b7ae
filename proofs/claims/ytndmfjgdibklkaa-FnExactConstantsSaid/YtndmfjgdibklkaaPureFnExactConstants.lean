/- The law FnExactConstants answers true: each constant of the program is the one that the document names. No condition. -/
import Derived.Test.YtndmfjgdibklkaaPFnExactConstantsx
namespace Go.Proofs.Ytndmfjgdibklkaa.Pure
open Go.RowKit Go.Proofs.Ytndmfjgdibklkaa.PFnExactConstants Go.Proofs.YtndmfjgdibklkaaW.PrintWords Go.Proofs.YtndmfjgdibklkaaW.PrintLast Go.Proofs.YtndmfjgdibklkaaW.PrintMore
set_option linter.unusedVariables false
set_option linter.unusedSimpArgs false

theorem FnExactConstants : laws_FnExactConstants.Pure := rfl

end Go.Proofs.Ytndmfjgdibklkaa.Pure
