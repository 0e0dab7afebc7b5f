-- Printed out of the translation by this session's own turned copy of a printer; Lean checks it.
import Derived.Test.YtdlhmhgpafegpaaPFnExactLmOkx0
import Derived.Test.YtdlhmhgpafegpaaPFnExactLmOkx3
import Derived.Test.YtdlhmhgpafegpaaEFnExactLmOks
namespace Go.Proofs.Ytdlhmhgpafegpaa.PFnExactLmOk
open Go.RowKit Go.Proofs.YtdlhmhgpafegpaaW.PrintWords Go.Proofs.YtdlhmhgpafegpaaW.PrintLast Go.Proofs.YtdlhmhgpafegpaaW.PrintMore
attribute [local go_sem] max2_int min2_int max_two min_two max_three min_three max_four min_four
set_option linter.unusedVariables false
set_option linter.unusedSimpArgs false
set_option maxHeartbeats 8000000
set_option maxRecDepth 100000
def impl_sortedRows.f (l : Int) (a : List (S57)) : Option ((List (S57))) := (impl_Row_51.f a).bind fun z => if z.length < 4611686018427387904 then some (SortRows.sortL z) else none
theorem impl_sortedRows.calls (u) (q : Nat → Prop) (x) (y) (a : List (S57)) (r : List (S57)) (w) (z : Kd.V k57 57 w w.heap.size (fun k_ => q k_) (.slice x a.length y) a) (h : impl_sortedRows.f u a = some r) :
 Calls Try.prog 33 #[.agg #[.int .i64 u, .slice x a.length y]] w fun e w' => ∃ v0_ : Value, e = .returned (v0_) ∧ Kd.N k57 57 w' w.heap.size (fun k_ => (q k_ ∨ w.heap.size ≤ k_)) v0_ r ∧ Below w.heap.size w w' := by
 exact SortRows.calls (cl := impl_Row_51.f) (fun P A c l r w hs h => impl_Row_51.calls P A c l r w hs h) u q x y a r w z h
end Go.Proofs.Ytdlhmhgpafegpaa.PFnExactLmOk
