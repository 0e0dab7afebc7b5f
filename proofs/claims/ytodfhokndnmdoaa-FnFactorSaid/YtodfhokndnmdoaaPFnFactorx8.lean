-- Printed out of the translation by this session's own turned copy of a printer; Lean checks it.
import Derived.Test.YtodfhokndnmdoaaPFnFactorx0
import Derived.Test.YtodfhokndnmdoaaEFnFactorh
namespace Go.Proofs.Ytodfhokndnmdoaa.PFnFactor
open Go.RowKit Go.Proofs.YtodfhokndnmdoaaW.PrintWords Go.Proofs.YtodfhokndnmdoaaW.PrintLast Go.Proofs.YtodfhokndnmdoaaW.PrintMore
attribute [local go_sem] max2_int min2_int max_two min_two max_three min_three max_four min_four
set_option linter.unusedVariables false
set_option linter.unusedSimpArgs false
set_option maxHeartbeats 8000000
set_option maxRecDepth 100000
def impl_Clip.f (k : Nat) (a : List Int) (l : Int) : Option (List Int) := StepH.clipF k a l
theorem impl_Clip.calls (k) (l) (q) (a : List Int) (u) (r : List Int) (w) (x : Kd.C (Kd.int .i64) w l a.length a) (y : a.length ≤ q) (h : impl_Clip.f k a u = some r) :
 Calls Try.prog 49 #[.slice l a.length q, .int .i64 u] w fun e w' => ∃ v0_ : Value, e = .returned (v0_) ∧ Kd.R (Kd.int .i64) 3 w' w.heap.size (fun _ => True) v0_ r ∧ Below w.heap.size w w' := by
 exact StepH.clip k l q a u r w x y h
end Go.Proofs.Ytodfhokndnmdoaa.PFnFactor
