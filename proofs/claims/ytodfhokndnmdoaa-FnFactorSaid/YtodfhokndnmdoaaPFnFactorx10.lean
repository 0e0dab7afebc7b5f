-- Printed out of the translation by this session's own turned copy of a printer; Lean checks it.
import Derived.Test.YtodfhokndnmdoaaPFnFactorx0
import Derived.Test.YtodfhokndnmdoaaEFnFactorp
namespace Go.Proofs.Ytodfhokndnmdoaa.PFnFactor
open Go.RowKit Go.Proofs.YtodfhokndnmdoaaW.PrintWords Go.Proofs.YtodfhokndnmdoaaW.PrintLast Go.Proofs.YtodfhokndnmdoaaW.PrintMore
attribute [local go_sem] max2_int min2_int max_two min_two max_three min_three max_four min_four
set_option linter.unusedVariables false
set_option linter.unusedSimpArgs false
set_option maxHeartbeats 8000000
set_option maxRecDepth 100000
def impl_moverOf.f (k : Nat) (a : Int) (y : Int) (z : Int) (A : Int) (B : Int) (l : Int) (q : Int) (u : Int) (D : Int) (E : Int) (x : Int) (I : Int) (J : Int) (L : Int) (M : Int) (O : Int) : Option (Int × Int × Int) := StepP.moverF k a l q u I J L M O
end Go.Proofs.Ytodfhokndnmdoaa.PFnFactor
