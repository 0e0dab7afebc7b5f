-- Printed out of the translation by this session's own turned copy of a printer; Lean checks it.
import Derived.Test.YtdlhmhgpafegpaaPFnExactWeightsx0
import Derived.Test.YtdlhmhgpafegpaaPFnExactWeightsx4
import Derived.Test.YtdlhmhgpafegpaaEFnExactWeightss
namespace Go.Proofs.Ytdlhmhgpafegpaa.PFnExactWeights
open Go.RowKit Go.Proofs.YtdlhmhgpafegpaaW.PrintWords Go.Proofs.YtdlhmhgpafegpaaW.PrintLast Go.Proofs.YtdlhmhgpafegpaaW.PrintMore
attribute [local go_sem] max2_int min2_int max_two min_two max_three min_three max_four min_four
set_option linter.unusedVariables false
set_option linter.unusedSimpArgs false
set_option maxHeartbeats 8000000
set_option maxRecDepth 100000
def impl_sortedRows.f (q : Int) (l : List (S57)) : Option ((List (S57))) := (impl_Row_51.f l).bind fun z => if z.length < 4611686018427387904 then some (SortRows.sortL z) else none
theorem impl_sortedRows.calls (y) (u : Nat → Prop) (z) (B) (q : List (S57)) (r : List (S57)) (w) (E : Kd.V k57 57 w w.heap.size (fun k_ => u k_) (.slice z q.length B) q) (h : impl_sortedRows.f y q = some r) :
 Calls Try.prog 33 #[.agg #[.int .i64 y, .slice z q.length B]] w fun e w' => ∃ v0_ : Value, e = .returned (v0_) ∧ Kd.N k57 57 w' w.heap.size (fun k_ => (u k_ ∨ w.heap.size ≤ k_)) v0_ r ∧ Below w.heap.size w w' := by
 exact SortRows.calls (cl := impl_Row_51.f) (fun P A c l r w hs h => impl_Row_51.calls P A c l r w hs h) y u z B q r w E h
end Go.Proofs.Ytdlhmhgpafegpaa.PFnExactWeights
