/-
  No cell of these rows narrows 'for every input' (looked for: loops, veiled, ifaces, maps, wideKeys, modest, calm, conditions, laid).
  DERIVED. THE GIVEN ROWS OF THIS SEAT. 5 by the template 'for every input the law returns true; each argument reads behind the call as it read before'; 0 by the template 'total and deterministic' (their statements: YtkfagiojcjnfkaaTotals.lean).
  GIVEN WITH THE SEED: the statements are not yours to turn. If you find one false, say at which input.
  Laid BY PROGRAM, IN A SANDBOX (cutbox-rows.mjs): the forced cells as the released guide's own fill.sh prints them over the translation 5b98fbbf9add8279… (all of the seat's roots in one cut). By AI agents, Wed Nov 11 2026. No macro, syntax, notation, axiom, sorry.
-/
import Derived.Test.YtkfagiojcjnfkaaChecked
import GoSem.Claim
import GoSem.ClaimJoined
import GoSem.ClaimMapViews
import Derived.JoinedTies
import Derived.KernelRfl
namespace Go.Proofs.Ytkfagiojcjnfkaa
/- THE CELL 'sum', in the pinned program and in every row, IS THE sha256 OF THE DUMP (.gsa) THAT YtkfagiojcjnfkaaProg.lean LOADS. Nothing in Lean hashes anything: it is a label: what it is worth is what the hold of that sum in a sandbox is worth. -/
noncomputable def Try.pinned : Pinned := { name := "ytkfagiojcjnfkaa", sum := "5b98fbbf9add827955b4b04f88a1690d510f3564ae194325c8d102c8239c7790", checked := Try.checked }
namespace Rows
def none {H : Type} : Left H := { results := [], args := [] }

/-- 'laws.FnExactRunOpt': WHATEVER THE INPUT: true; the input reads as it did. -/
def fnExactRunOptSpec : ChangeSpec := { name := "fnExactRunOpt", fn := fun _ => fun
  | [d1, d2, d3] => { results := [.lit (.bool true)], args := [d1, d2, d3] }
  | _ => none }
def fnExactRunOptRow : OpenClaim := { program := "ytkfagiojcjnfkaa", sum := "5b98fbbf9add827955b4b04f88a1690d510f3564ae194325c8d102c8239c7790", func := "loop.example/g00033/laws.FnExactRunOpt", spec := "fnExactRunOpt", unfollowed := true, recurses := true, plainKeys := false, apart := false }
def FnExactRunOptSaid : Prop := fnExactRunOptRow.holds Try.pinned (OpenSpec.ofChange fnExactRunOptSpec)

/-- ITS FALSE NEIGHBOUR: 'it returns false'. Refute it at one input. -/
def fnExactRunOptWrong : ChangeSpec := { name := "fnExactRunOpt", fn := fun _ => fun
  | [d1, d2, d3] => { results := [.lit (.bool false)], args := [d1, d2, d3] }
  | _ => none }
def FnExactRunOptWrongFalsely : Prop := fnExactRunOptRow.holds Try.pinned (OpenSpec.ofChange fnExactRunOptWrong)

/-- 'laws.FnSpreadFirst': WHATEVER THE INPUT: true; the input reads as it did. -/
def fnSpreadFirstSpec : ChangeSpec := { name := "fnSpreadFirst", fn := fun _ => fun
  | [d] => { results := [.lit (.bool true)], args := [d] }
  | _ => none }
def fnSpreadFirstRow : OpenClaim := { program := "ytkfagiojcjnfkaa", sum := "5b98fbbf9add827955b4b04f88a1690d510f3564ae194325c8d102c8239c7790", func := "loop.example/g00033/laws.FnSpreadFirst", spec := "fnSpreadFirst", unfollowed := true, recurses := true, plainKeys := false, apart := false }
def FnSpreadFirstSaid : Prop := fnSpreadFirstRow.holds Try.pinned (OpenSpec.ofChange fnSpreadFirstSpec)

/-- ITS FALSE NEIGHBOUR: 'it returns false'. Refute it at one input. -/
def fnSpreadFirstWrong : ChangeSpec := { name := "fnSpreadFirst", fn := fun _ => fun
  | [d] => { results := [.lit (.bool false)], args := [d] }
  | _ => none }
def FnSpreadFirstWrongFalsely : Prop := fnSpreadFirstRow.holds Try.pinned (OpenSpec.ofChange fnSpreadFirstWrong)

/-- 'laws.FnExactNestOk': WHATEVER THE INPUT: true; the input reads as it did. -/
def fnExactNestOkSpec : ChangeSpec := { name := "fnExactNestOk", fn := fun _ => fun
  | [d] => { results := [.lit (.bool true)], args := [d] }
  | _ => none }
def fnExactNestOkRow : OpenClaim := { program := "ytkfagiojcjnfkaa", sum := "5b98fbbf9add827955b4b04f88a1690d510f3564ae194325c8d102c8239c7790", func := "loop.example/g00033/laws.FnExactNestOk", spec := "fnExactNestOk", unfollowed := true, recurses := true, plainKeys := false, apart := false }
def FnExactNestOkSaid : Prop := fnExactNestOkRow.holds Try.pinned (OpenSpec.ofChange fnExactNestOkSpec)

/-- ITS FALSE NEIGHBOUR: 'it returns false'. Refute it at one input. -/
def fnExactNestOkWrong : ChangeSpec := { name := "fnExactNestOk", fn := fun _ => fun
  | [d] => { results := [.lit (.bool false)], args := [d] }
  | _ => none }
def FnExactNestOkWrongFalsely : Prop := fnExactNestOkRow.holds Try.pinned (OpenSpec.ofChange fnExactNestOkWrong)

/-- 'laws.FnCounted': WHATEVER THE INPUT: true; the input reads as it did. -/
def fnCountedSpec : ChangeSpec := { name := "fnCounted", fn := fun _ => fun
  | [d1, d2] => { results := [.lit (.bool true)], args := [d1, d2] }
  | _ => none }
def fnCountedRow : OpenClaim := { program := "ytkfagiojcjnfkaa", sum := "5b98fbbf9add827955b4b04f88a1690d510f3564ae194325c8d102c8239c7790", func := "loop.example/g00033/laws.FnCounted", spec := "fnCounted", unfollowed := true, recurses := true, plainKeys := false, apart := false }
def FnCountedSaid : Prop := fnCountedRow.holds Try.pinned (OpenSpec.ofChange fnCountedSpec)

/-- ITS FALSE NEIGHBOUR: 'it returns false'. Refute it at one input. -/
def fnCountedWrong : ChangeSpec := { name := "fnCounted", fn := fun _ => fun
  | [d1, d2] => { results := [.lit (.bool false)], args := [d1, d2] }
  | _ => none }
def FnCountedWrongFalsely : Prop := fnCountedRow.holds Try.pinned (OpenSpec.ofChange fnCountedWrong)

/-- 'laws.FnExactCountLm': WHATEVER THE INPUT: true; the input reads as it did. -/
def fnExactCountLmSpec : ChangeSpec := { name := "fnExactCountLm", fn := fun _ => fun
  | [d1, d2, d3] => { results := [.lit (.bool true)], args := [d1, d2, d3] }
  | _ => none }
def fnExactCountLmRow : OpenClaim := { program := "ytkfagiojcjnfkaa", sum := "5b98fbbf9add827955b4b04f88a1690d510f3564ae194325c8d102c8239c7790", func := "loop.example/g00033/laws.FnExactCountLm", spec := "fnExactCountLm", unfollowed := true, recurses := true, plainKeys := false, apart := false }
def FnExactCountLmSaid : Prop := fnExactCountLmRow.holds Try.pinned (OpenSpec.ofChange fnExactCountLmSpec)

/-- ITS FALSE NEIGHBOUR: 'it returns false'. Refute it at one input. -/
def fnExactCountLmWrong : ChangeSpec := { name := "fnExactCountLm", fn := fun _ => fun
  | [d1, d2, d3] => { results := [.lit (.bool false)], args := [d1, d2, d3] }
  | _ => none }
def FnExactCountLmWrongFalsely : Prop := fnExactCountLmRow.holds Try.pinned (OpenSpec.ofChange fnExactCountLmWrong)

/- THE SECOND FORM. 'bulk': how many values and letters a reading holds, each counted each time it is reached (what is shared counts as often as it is met; a slice's spare places count too). A statement '..UptoSaid' is the law's where the arguments, and the package variables that the reading takes, are together of bulk at most 1048576: NARROWER than '..Said'. Prove '..Said' where nothing that the law and all that it calls make is longer than what came in: it says more and counts as full. Else prove '..UptoSaid'. A law counts once. -/
mutual
def uptoBulk {H : Type} : DataW H → Nat
  | .lit (.string bytes) => bytes.length + 1
  | .lit _ => 1
  | .nil => 1
  | .ptr d => uptoBulk d + 1
  | .slice elems spare => uptoBulkAll elems + uptoBulkAll spare + 1
  | .agg parts => uptoBulkAll parts + 1
  | .iface _ d => uptoBulk d + 1
  | .map entries => uptoBulkEntries entries + 1
  | .held _ => 1
def uptoBulkAll {H : Type} : List (DataW H) → Nat
  | [] => 0
  | d :: r => uptoBulk d + uptoBulkAll r
def uptoBulkEntries {H : Type} : List (Lit × DataW H) → Nat
  | [] => 0
  | x :: r => uptoBulkEntry x + uptoBulkEntries r
def uptoBulkEntry {H : Type} : Lit × DataW H → Nat
  | (.string bytes, d) => bytes.length + uptoBulk d + 1
  | (_, d) => uptoBulk d + 1
 end
def uptoSmall : (H : Type) → List (DataW H) → Bool := fun _ ds => decide (uptoBulkAll ds ≤ 1048576)
def OpenSpec.upto (s : _root_.Go.ChangeSpec) : _root_.Go.OpenSpec := { _root_.Go.OpenSpec.ofChange s with cond := some uptoSmall }

/-- 'laws.FnExactRunOpt', WHERE WHAT IT READS IS OF BULK AT MOST 1048576: true; the input reads as it did. -/
def fnExactRunOptUptoRow : OpenClaim := { program := "ytkfagiojcjnfkaa", sum := "5b98fbbf9add827955b4b04f88a1690d510f3564ae194325c8d102c8239c7790", func := "loop.example/g00033/laws.FnExactRunOpt", spec := "fnExactRunOpt", unfollowed := true, recurses := true, plainKeys := false, apart := false, narrowed := true }
def FnExactRunOptUptoSaid : Prop := fnExactRunOptUptoRow.holds Try.pinned (OpenSpec.upto fnExactRunOptSpec)

/-- 'laws.FnSpreadFirst', WHERE WHAT IT READS IS OF BULK AT MOST 1048576: true; the input reads as it did. -/
def fnSpreadFirstUptoRow : OpenClaim := { program := "ytkfagiojcjnfkaa", sum := "5b98fbbf9add827955b4b04f88a1690d510f3564ae194325c8d102c8239c7790", func := "loop.example/g00033/laws.FnSpreadFirst", spec := "fnSpreadFirst", unfollowed := true, recurses := true, plainKeys := false, apart := false, narrowed := true }
def FnSpreadFirstUptoSaid : Prop := fnSpreadFirstUptoRow.holds Try.pinned (OpenSpec.upto fnSpreadFirstSpec)

/-- 'laws.FnExactNestOk', WHERE WHAT IT READS IS OF BULK AT MOST 1048576: true; the input reads as it did. -/
def fnExactNestOkUptoRow : OpenClaim := { program := "ytkfagiojcjnfkaa", sum := "5b98fbbf9add827955b4b04f88a1690d510f3564ae194325c8d102c8239c7790", func := "loop.example/g00033/laws.FnExactNestOk", spec := "fnExactNestOk", unfollowed := true, recurses := true, plainKeys := false, apart := false, narrowed := true }
def FnExactNestOkUptoSaid : Prop := fnExactNestOkUptoRow.holds Try.pinned (OpenSpec.upto fnExactNestOkSpec)

/-- 'laws.FnCounted', WHERE WHAT IT READS IS OF BULK AT MOST 1048576: true; the input reads as it did. -/
def fnCountedUptoRow : OpenClaim := { program := "ytkfagiojcjnfkaa", sum := "5b98fbbf9add827955b4b04f88a1690d510f3564ae194325c8d102c8239c7790", func := "loop.example/g00033/laws.FnCounted", spec := "fnCounted", unfollowed := true, recurses := true, plainKeys := false, apart := false, narrowed := true }
def FnCountedUptoSaid : Prop := fnCountedUptoRow.holds Try.pinned (OpenSpec.upto fnCountedSpec)

/-- 'laws.FnExactCountLm', WHERE WHAT IT READS IS OF BULK AT MOST 1048576: true; the input reads as it did. -/
def fnExactCountLmUptoRow : OpenClaim := { program := "ytkfagiojcjnfkaa", sum := "5b98fbbf9add827955b4b04f88a1690d510f3564ae194325c8d102c8239c7790", func := "loop.example/g00033/laws.FnExactCountLm", spec := "fnExactCountLm", unfollowed := true, recurses := true, plainKeys := false, apart := false, narrowed := true }
def FnExactCountLmUptoSaid : Prop := fnExactCountLmUptoRow.holds Try.pinned (OpenSpec.upto fnExactCountLmSpec)

end Rows
end Go.Proofs.Ytkfagiojcjnfkaa
