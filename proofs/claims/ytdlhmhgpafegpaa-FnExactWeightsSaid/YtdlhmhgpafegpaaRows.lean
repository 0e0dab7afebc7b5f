/-
  No cell of these rows narrows 'for every input' (looked for: loops, veiled, ifaces, maps, wideKeys, modest, calm, conditions, laid).
  DERIVED. THE GIVEN ROWS OF THIS SEAT. 4 by the template 'for every input the law returns true; each argument reads behind the call as it read before'; 0 by the template 'total and deterministic' (their statements: YtdlhmhgpafegpaaTotals.lean).
  GIVEN WITH THE SEED: the statements are not yours to turn. If you find one false, say at which input.
  Laid BY PROGRAM, IN A SANDBOX (cutbox-rows.mjs): the forced cells as the released guide's own fill.sh prints them over the translation 9e20164ec203d644… (all of the seat's roots in one cut). By AI agents, Wed Nov 11 2026. No macro, syntax, notation, axiom, sorry.
-/
import Derived.Test.YtdlhmhgpafegpaaChecked
import GoSem.Claim
import GoSem.ClaimJoined
import GoSem.ClaimMapViews
import Derived.JoinedTies
import Derived.KernelRfl
namespace Go.Proofs.Ytdlhmhgpafegpaa
/- THE CELL 'sum', in the pinned program and in every row, IS THE sha256 OF THE DUMP (.gsa) THAT YtdlhmhgpafegpaaProg.lean LOADS. Nothing in Lean hashes anything: it is a label: what it is worth is what the hold of that sum in a sandbox is worth. -/
noncomputable def Try.pinned : Pinned := { name := "ytdlhmhgpafegpaa", sum := "9e20164ec203d644a8123661d09c2e5c939c5f3624037ef1aa5f1bed6a23db41", checked := Try.checked }
namespace Rows
def none {H : Type} : Left H := { results := [], args := [] }

/-- 'laws.FnExactLmOk': WHATEVER THE INPUT: true; the input reads as it did. -/
def fnExactLmOkSpec : ChangeSpec := { name := "fnExactLmOk", fn := fun _ => fun
  | [d] => { results := [.lit (.bool true)], args := [d] }
  | _ => none }
def fnExactLmOkRow : OpenClaim := { program := "ytdlhmhgpafegpaa", sum := "9e20164ec203d644a8123661d09c2e5c939c5f3624037ef1aa5f1bed6a23db41", func := "loop.example/g00033/laws.FnExactLmOk", spec := "fnExactLmOk", unfollowed := true, recurses := true, apart := false }
def FnExactLmOkSaid : Prop := fnExactLmOkRow.holds Try.pinned (OpenSpec.ofChange fnExactLmOkSpec)

/-- ITS FALSE NEIGHBOUR: 'it returns false'. Refute it at one input. -/
def fnExactLmOkWrong : ChangeSpec := { name := "fnExactLmOk", fn := fun _ => fun
  | [d] => { results := [.lit (.bool false)], args := [d] }
  | _ => none }
def FnExactLmOkWrongFalsely : Prop := fnExactLmOkRow.holds Try.pinned (OpenSpec.ofChange fnExactLmOkWrong)

/-- 'laws.FnExactHouseOk': WHATEVER THE INPUT: true; the input reads as it did. -/
def fnExactHouseOkSpec : ChangeSpec := { name := "fnExactHouseOk", fn := fun _ => fun
  | [d] => { results := [.lit (.bool true)], args := [d] }
  | _ => none }
def fnExactHouseOkRow : OpenClaim := { program := "ytdlhmhgpafegpaa", sum := "9e20164ec203d644a8123661d09c2e5c939c5f3624037ef1aa5f1bed6a23db41", func := "loop.example/g00033/laws.FnExactHouseOk", spec := "fnExactHouseOk", unfollowed := true, recurses := true, apart := false }
def FnExactHouseOkSaid : Prop := fnExactHouseOkRow.holds Try.pinned (OpenSpec.ofChange fnExactHouseOkSpec)

/-- ITS FALSE NEIGHBOUR: 'it returns false'. Refute it at one input. -/
def fnExactHouseOkWrong : ChangeSpec := { name := "fnExactHouseOk", fn := fun _ => fun
  | [d] => { results := [.lit (.bool false)], args := [d] }
  | _ => none }
def FnExactHouseOkWrongFalsely : Prop := fnExactHouseOkRow.holds Try.pinned (OpenSpec.ofChange fnExactHouseOkWrong)

/-- 'laws.FnExactPagesOf': WHATEVER THE INPUT: true; the input reads as it did. -/
def fnExactPagesOfSpec : ChangeSpec := { name := "fnExactPagesOf", fn := fun _ => fun
  | [d1, d2] => { results := [.lit (.bool true)], args := [d1, d2] }
  | _ => none }
def fnExactPagesOfRow : OpenClaim := { program := "ytdlhmhgpafegpaa", sum := "9e20164ec203d644a8123661d09c2e5c939c5f3624037ef1aa5f1bed6a23db41", func := "loop.example/g00033/laws.FnExactPagesOf", spec := "fnExactPagesOf", unfollowed := true, recurses := true, apart := false }
def FnExactPagesOfSaid : Prop := fnExactPagesOfRow.holds Try.pinned (OpenSpec.ofChange fnExactPagesOfSpec)

/-- ITS FALSE NEIGHBOUR: 'it returns false'. Refute it at one input. -/
def fnExactPagesOfWrong : ChangeSpec := { name := "fnExactPagesOf", fn := fun _ => fun
  | [d1, d2] => { results := [.lit (.bool false)], args := [d1, d2] }
  | _ => none }
def FnExactPagesOfWrongFalsely : Prop := fnExactPagesOfRow.holds Try.pinned (OpenSpec.ofChange fnExactPagesOfWrong)

/-- 'laws.FnExactWeights': WHATEVER THE INPUT: true; the input reads as it did. -/
def fnExactWeightsSpec : ChangeSpec := { name := "fnExactWeights", fn := fun _ => fun
  | [d1, d2] => { results := [.lit (.bool true)], args := [d1, d2] }
  | _ => none }
def fnExactWeightsRow : OpenClaim := { program := "ytdlhmhgpafegpaa", sum := "9e20164ec203d644a8123661d09c2e5c939c5f3624037ef1aa5f1bed6a23db41", func := "loop.example/g00033/laws.FnExactWeights", spec := "fnExactWeights", unfollowed := true, recurses := true, apart := false }
def FnExactWeightsSaid : Prop := fnExactWeightsRow.holds Try.pinned (OpenSpec.ofChange fnExactWeightsSpec)

/-- ITS FALSE NEIGHBOUR: 'it returns false'. Refute it at one input. -/
def fnExactWeightsWrong : ChangeSpec := { name := "fnExactWeights", fn := fun _ => fun
  | [d1, d2] => { results := [.lit (.bool false)], args := [d1, d2] }
  | _ => none }
def FnExactWeightsWrongFalsely : Prop := fnExactWeightsRow.holds Try.pinned (OpenSpec.ofChange fnExactWeightsWrong)

/- THE SECOND FORM. 'bulk': how many values and letters a reading holds, each counted each time it is reached (what is shared counts as often as it is met; a slice's spare places count too). A statement '..UptoSaid' is the law's where the arguments, and the package variables that the reading takes, are together of bulk at most 1048576: NARROWER than '..Said'. Prove '..Said' where nothing that the law and all that it calls make is longer than what came in: it says more and counts as full. Else prove '..UptoSaid'. A law counts once. -/
mutual
def uptoBulk {H : Type} : DataW H → Nat
  | .lit (.string bytes) => bytes.length + 1
  | .lit _ => 1
  | .nil => 1
  | .ptr d => uptoBulk d + 1
  | .slice elems spare => uptoBulkAll elems + uptoBulkAll spare + 1
  | .agg parts => uptoBulkAll parts + 1
  | .iface _ d => uptoBulk d + 1
  | .map entries => uptoBulkEntries entries + 1
  | .held _ => 1
def uptoBulkAll {H : Type} : List (DataW H) → Nat
  | [] => 0
  | d :: r => uptoBulk d + uptoBulkAll r
def uptoBulkEntries {H : Type} : List (Lit × DataW H) → Nat
  | [] => 0
  | x :: r => uptoBulkEntry x + uptoBulkEntries r
def uptoBulkEntry {H : Type} : Lit × DataW H → Nat
  | (.string bytes, d) => bytes.length + uptoBulk d + 1
  | (_, d) => uptoBulk d + 1
 end
def uptoSmall : (H : Type) → List (DataW H) → Bool := fun _ ds => decide (uptoBulkAll ds ≤ 1048576)
def OpenSpec.upto (s : _root_.Go.ChangeSpec) : _root_.Go.OpenSpec := { _root_.Go.OpenSpec.ofChange s with cond := some uptoSmall }

/-- 'laws.FnExactLmOk', WHERE WHAT IT READS IS OF BULK AT MOST 1048576: true; the input reads as it did. -/
def fnExactLmOkUptoRow : OpenClaim := { program := "ytdlhmhgpafegpaa", sum := "9e20164ec203d644a8123661d09c2e5c939c5f3624037ef1aa5f1bed6a23db41", func := "loop.example/g00033/laws.FnExactLmOk", spec := "fnExactLmOk", unfollowed := true, recurses := true, apart := false, narrowed := true }
def FnExactLmOkUptoSaid : Prop := fnExactLmOkUptoRow.holds Try.pinned (OpenSpec.upto fnExactLmOkSpec)

/-- 'laws.FnExactHouseOk', WHERE WHAT IT READS IS OF BULK AT MOST 1048576: true; the input reads as it did. -/
def fnExactHouseOkUptoRow : OpenClaim := { program := "ytdlhmhgpafegpaa", sum := "9e20164ec203d644a8123661d09c2e5c939c5f3624037ef1aa5f1bed6a23db41", func := "loop.example/g00033/laws.FnExactHouseOk", spec := "fnExactHouseOk", unfollowed := true, recurses := true, apart := false, narrowed := true }
def FnExactHouseOkUptoSaid : Prop := fnExactHouseOkUptoRow.holds Try.pinned (OpenSpec.upto fnExactHouseOkSpec)

/-- 'laws.FnExactPagesOf', WHERE WHAT IT READS IS OF BULK AT MOST 1048576: true; the input reads as it did. -/
def fnExactPagesOfUptoRow : OpenClaim := { program := "ytdlhmhgpafegpaa", sum := "9e20164ec203d644a8123661d09c2e5c939c5f3624037ef1aa5f1bed6a23db41", func := "loop.example/g00033/laws.FnExactPagesOf", spec := "fnExactPagesOf", unfollowed := true, recurses := true, apart := false, narrowed := true }
def FnExactPagesOfUptoSaid : Prop := fnExactPagesOfUptoRow.holds Try.pinned (OpenSpec.upto fnExactPagesOfSpec)

/-- 'laws.FnExactWeights', WHERE WHAT IT READS IS OF BULK AT MOST 1048576: true; the input reads as it did. -/
def fnExactWeightsUptoRow : OpenClaim := { program := "ytdlhmhgpafegpaa", sum := "9e20164ec203d644a8123661d09c2e5c939c5f3624037ef1aa5f1bed6a23db41", func := "loop.example/g00033/laws.FnExactWeights", spec := "fnExactWeights", unfollowed := true, recurses := true, apart := false, narrowed := true }
def FnExactWeightsUptoSaid : Prop := fnExactWeightsUptoRow.holds Try.pinned (OpenSpec.upto fnExactWeightsSpec)

end Rows
end Go.Proofs.Ytdlhmhgpafegpaa
