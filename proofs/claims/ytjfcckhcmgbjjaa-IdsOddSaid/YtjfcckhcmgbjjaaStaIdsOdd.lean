-- What the parameters of IdsOdd hold, and the pure statement (written by mklaw.py).
import Derived.Test.YtjfcckhcmgbjjaaPIdsOddx0
import Derived.Test.YtjfcckhcmgbjjaaPIdsOddx1
import Derived.Test.YtjfcckhcmgbjjaaOpen
import Derived.KernelRfl
namespace Go.Proofs.Ytjfcckhcmgbjjaa.StaIdsOdd
open Go.RowKit Go.Proofs.YtjfcckhcmgbjjaaW.PrintWords Go.Proofs.YtjfcckhcmgbjjaaW.PrintLast Go.Proofs.YtjfcckhcmgbjjaaW.PrintMore Go.Proofs.Ytjfcckhcmgbjjaa.Open Go.Proofs.Ytjfcckhcmgbjjaa.PIdsOdd
set_option linter.unusedVariables false
def Pure : Prop := ∀ (a0 : Int) (a1 : Int), (Lit.int .i64 a0).wf = true → (Lit.int .i64 a1).wf = true → ∃ k, bywashlaw18_IdsOdd.f k a0 a1 = some true
end Go.Proofs.Ytjfcckhcmgbjjaa.StaIdsOdd
