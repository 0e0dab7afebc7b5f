/-
  No cell of these rows narrows 'for every input' (looked for: loops, veiled, ifaces, maps, wideKeys, modest, calm, conditions, laid).
  DERIVED. THE GIVEN ROWS OF THIS SEAT. 4 by the template 'for every input the law returns true; each argument reads behind the call as it read before'; 0 by the template 'total and deterministic' (their statements: YtemcipcijhkhjaaTotals.lean).
  GIVEN WITH THE SEED: the statements are not yours to turn. If you find one false, say at which input.
  Laid BY PROGRAM, IN A SANDBOX (cutbox-rows.mjs): the forced cells as the released guide's own fill.sh prints them over the translation 10e7b547fcbfa2bd… (all of the seat's roots in one cut). By AI agents, Wed Nov 11 2026. No macro, syntax, notation, axiom, sorry.
-/
import Derived.Test.YtemcipcijhkhjaaChecked
import GoSem.Claim
import GoSem.ClaimJoined
import GoSem.ClaimMapViews
import Derived.JoinedTies
import Derived.KernelRfl
namespace Go.Proofs.Ytemcipcijhkhjaa
/- THE CELL 'sum', in the pinned program and in every row, IS THE sha256 OF THE DUMP (.gsa) THAT YtemcipcijhkhjaaProg.lean LOADS. Nothing in Lean hashes anything: it is a label: what it is worth is what the hold of that sum in a sandbox is worth. -/
noncomputable def Try.pinned : Pinned := { name := "ytemcipcijhkhjaa", sum := "10e7b547fcbfa2bd4a3af7fa497989f6a21c6321792f7c6cb82ff3b4a2ac605c", checked := Try.checked }
namespace Rows
def none {H : Type} : Left H := { results := [], args := [] }

/-- 'laws.FnExactTile': WHATEVER THE INPUT: true; the input reads as it did. -/
def fnExactTileSpec : ChangeSpec := { name := "fnExactTile", fn := fun _ => fun
  | [d1, d2, d3] => { results := [.lit (.bool true)], args := [d1, d2, d3] }
  | _ => none }
def fnExactTileRow : OpenClaim := { program := "ytemcipcijhkhjaa", sum := "10e7b547fcbfa2bd4a3af7fa497989f6a21c6321792f7c6cb82ff3b4a2ac605c", func := "loop.example/g00033/laws.FnExactTile", spec := "fnExactTile", unfollowed := true, recurses := true, apart := false }
def FnExactTileSaid : Prop := fnExactTileRow.holds Try.pinned (OpenSpec.ofChange fnExactTileSpec)

/-- ITS FALSE NEIGHBOUR: 'it returns false'. Refute it at one input. -/
def fnExactTileWrong : ChangeSpec := { name := "fnExactTile", fn := fun _ => fun
  | [d1, d2, d3] => { results := [.lit (.bool false)], args := [d1, d2, d3] }
  | _ => none }
def FnExactTileWrongFalsely : Prop := fnExactTileRow.holds Try.pinned (OpenSpec.ofChange fnExactTileWrong)

/-- 'laws.FnMatBound': WHATEVER THE INPUT: true; the input reads as it did. -/
def fnMatBoundSpec : ChangeSpec := { name := "fnMatBound", fn := fun _ => fun
  | [d1, d2] => { results := [.lit (.bool true)], args := [d1, d2] }
  | _ => none }
def fnMatBoundRow : OpenClaim := { program := "ytemcipcijhkhjaa", sum := "10e7b547fcbfa2bd4a3af7fa497989f6a21c6321792f7c6cb82ff3b4a2ac605c", func := "loop.example/g00033/laws.FnMatBound", spec := "fnMatBound", named := ["math/bits.divideError", "math/bits.overflowError"], apart := false }
def FnMatBoundSaid : Prop := fnMatBoundRow.holds Try.pinned (OpenSpec.ofChange fnMatBoundSpec)

/-- ITS FALSE NEIGHBOUR: 'it returns false'. Refute it at one input. -/
def fnMatBoundWrong : ChangeSpec := { name := "fnMatBound", fn := fun _ => fun
  | [d1, d2] => { results := [.lit (.bool false)], args := [d1, d2] }
  | _ => none }
def FnMatBoundWrongFalsely : Prop := fnMatBoundRow.holds Try.pinned (OpenSpec.ofChange fnMatBoundWrong)

/-- 'laws.FnExactReorder': WHATEVER THE INPUT: true; the input reads as it did. -/
def fnExactReorderSpec : ChangeSpec := { name := "fnExactReorder", fn := fun _ => fun
  | [d1, d2] => { results := [.lit (.bool true)], args := [d1, d2] }
  | _ => none }
def fnExactReorderRow : OpenClaim := { program := "ytemcipcijhkhjaa", sum := "10e7b547fcbfa2bd4a3af7fa497989f6a21c6321792f7c6cb82ff3b4a2ac605c", func := "loop.example/g00033/laws.FnExactReorder", spec := "fnExactReorder", unfollowed := true, recurses := true, apart := false }
def FnExactReorderSaid : Prop := fnExactReorderRow.holds Try.pinned (OpenSpec.ofChange fnExactReorderSpec)

/-- ITS FALSE NEIGHBOUR: 'it returns false'. Refute it at one input. -/
def fnExactReorderWrong : ChangeSpec := { name := "fnExactReorder", fn := fun _ => fun
  | [d1, d2] => { results := [.lit (.bool false)], args := [d1, d2] }
  | _ => none }
def FnExactReorderWrongFalsely : Prop := fnExactReorderRow.holds Try.pinned (OpenSpec.ofChange fnExactReorderWrong)

/-- 'laws.FnAttendCache': WHATEVER THE INPUT: true; the input reads as it did. -/
def fnAttendCacheSpec : ChangeSpec := { name := "fnAttendCache", fn := fun _ => fun
  | [d] => { results := [.lit (.bool true)], args := [d] }
  | _ => none }
def fnAttendCacheRow : OpenClaim := { program := "ytemcipcijhkhjaa", sum := "10e7b547fcbfa2bd4a3af7fa497989f6a21c6321792f7c6cb82ff3b4a2ac605c", func := "loop.example/g00033/laws.FnAttendCache", spec := "fnAttendCache", unfollowed := true, recurses := true, apart := false }
def FnAttendCacheSaid : Prop := fnAttendCacheRow.holds Try.pinned (OpenSpec.ofChange fnAttendCacheSpec)

/-- ITS FALSE NEIGHBOUR: 'it returns false'. Refute it at one input. -/
def fnAttendCacheWrong : ChangeSpec := { name := "fnAttendCache", fn := fun _ => fun
  | [d] => { results := [.lit (.bool false)], args := [d] }
  | _ => none }
def FnAttendCacheWrongFalsely : Prop := fnAttendCacheRow.holds Try.pinned (OpenSpec.ofChange fnAttendCacheWrong)

/- THE SECOND FORM. 'bulk': how many values and letters a reading holds, each counted each time it is reached (what is shared counts as often as it is met; a slice's spare places count too). A statement '..UptoSaid' is the law's where the arguments, and the package variables that the reading takes, are together of bulk at most 1048576: NARROWER than '..Said'. Prove '..Said' where nothing that the law and all that it calls make is longer than what came in: it says more and counts as full. Else prove '..UptoSaid'. A law counts once. -/
mutual
def uptoBulk {H : Type} : DataW H → Nat
  | .lit (.string bytes) => bytes.length + 1
  | .lit _ => 1
  | .nil => 1
  | .ptr d => uptoBulk d + 1
  | .slice elems spare => uptoBulkAll elems + uptoBulkAll spare + 1
  | .agg parts => uptoBulkAll parts + 1
  | .iface _ d => uptoBulk d + 1
  | .map entries => uptoBulkEntries entries + 1
  | .held _ => 1
def uptoBulkAll {H : Type} : List (DataW H) → Nat
  | [] => 0
  | d :: r => uptoBulk d + uptoBulkAll r
def uptoBulkEntries {H : Type} : List (Lit × DataW H) → Nat
  | [] => 0
  | x :: r => uptoBulkEntry x + uptoBulkEntries r
def uptoBulkEntry {H : Type} : Lit × DataW H → Nat
  | (.string bytes, d) => bytes.length + uptoBulk d + 1
  | (_, d) => uptoBulk d + 1
 end
def uptoSmall : (H : Type) → List (DataW H) → Bool := fun _ ds => decide (uptoBulkAll ds ≤ 1048576)
def OpenSpec.upto (s : _root_.Go.ChangeSpec) : _root_.Go.OpenSpec := { _root_.Go.OpenSpec.ofChange s with cond := some uptoSmall }

/-- 'laws.FnExactTile', WHERE WHAT IT READS IS OF BULK AT MOST 1048576: true; the input reads as it did. -/
def fnExactTileUptoRow : OpenClaim := { program := "ytemcipcijhkhjaa", sum := "10e7b547fcbfa2bd4a3af7fa497989f6a21c6321792f7c6cb82ff3b4a2ac605c", func := "loop.example/g00033/laws.FnExactTile", spec := "fnExactTile", unfollowed := true, recurses := true, apart := false, narrowed := true }
def FnExactTileUptoSaid : Prop := fnExactTileUptoRow.holds Try.pinned (OpenSpec.upto fnExactTileSpec)

/-- 'laws.FnMatBound', WHERE WHAT IT READS IS OF BULK AT MOST 1048576: true; the input reads as it did. -/
def fnMatBoundUptoRow : OpenClaim := { program := "ytemcipcijhkhjaa", sum := "10e7b547fcbfa2bd4a3af7fa497989f6a21c6321792f7c6cb82ff3b4a2ac605c", func := "loop.example/g00033/laws.FnMatBound", spec := "fnMatBound", named := ["math/bits.divideError", "math/bits.overflowError"], apart := false, narrowed := true }
def FnMatBoundUptoSaid : Prop := fnMatBoundUptoRow.holds Try.pinned (OpenSpec.upto fnMatBoundSpec)

/-- 'laws.FnExactReorder', WHERE WHAT IT READS IS OF BULK AT MOST 1048576: true; the input reads as it did. -/
def fnExactReorderUptoRow : OpenClaim := { program := "ytemcipcijhkhjaa", sum := "10e7b547fcbfa2bd4a3af7fa497989f6a21c6321792f7c6cb82ff3b4a2ac605c", func := "loop.example/g00033/laws.FnExactReorder", spec := "fnExactReorder", unfollowed := true, recurses := true, apart := false, narrowed := true }
def FnExactReorderUptoSaid : Prop := fnExactReorderUptoRow.holds Try.pinned (OpenSpec.upto fnExactReorderSpec)

/-- 'laws.FnAttendCache', WHERE WHAT IT READS IS OF BULK AT MOST 1048576: true; the input reads as it did. -/
def fnAttendCacheUptoRow : OpenClaim := { program := "ytemcipcijhkhjaa", sum := "10e7b547fcbfa2bd4a3af7fa497989f6a21c6321792f7c6cb82ff3b4a2ac605c", func := "loop.example/g00033/laws.FnAttendCache", spec := "fnAttendCache", unfollowed := true, recurses := true, apart := false, narrowed := true }
def FnAttendCacheUptoSaid : Prop := fnAttendCacheUptoRow.holds Try.pinned (OpenSpec.upto fnAttendCacheSpec)

end Rows
end Go.Proofs.Ytemcipcijhkhjaa
