-- Printed out of the translation by this session's own turned copy of a printer; Lean checks it.
import Derived.Test.YtiabkadcgmamaaaPFnExactFillSlotsx0
namespace Go.Proofs.Ytiabkadcgmamaaa.PFnExactFillSlots
open Go.RowKit Go.Proofs.YtiabkadcgmamaaaW.PrintWords Go.Proofs.YtiabkadcgmamaaaW.PrintLast Go.Proofs.YtiabkadcgmamaaaW.PrintMore
attribute [local go_sem] max2_int min2_int max_two min_two max_three min_three max_four min_four
set_option linter.unusedVariables false
set_option linter.unusedSimpArgs false
set_option maxHeartbeats 8000000
set_option maxRecDepth 100000
def spec_l5In.f (a : Int) (l : Int) (o : Int) : Option (Bool) := if a ≥ l then (some (decide (a ≤ o))) else (some false)
theorem spec_l5In.calls (l) (o) (q) (r : Bool) (w) (h : spec_l5In.f l o q = some r) :
 Calls Try.prog 15 #[.int .i64 l, .int .i64 o, .int .i64 q] w fun e w' => e = .returned (.bool r) ∧ Drawn0 w w' := by
 have H : (if l ≥ o then (some (decide (l ≤ q))) else (some false)) = some r := h
 clear h
 by_cases a : l ≥ o
 · rw [if_pos a] at H
   have u := z1 a
   clear a
   obtain rfl := z5 H
   go_enter Try.func15, Try.ntmps15
   go_wp2
   go_ret
   exact ⟨zR, zD⟩
 rw [if_neg a] at H
 have u := z2 a
 clear a
 obtain rfl := z5 H
 go_enter Try.func15, Try.ntmps15
 go_wp2
 go_ret
 exact ⟨zR, zD⟩
def spec_l19Size.f (l : Int) : Option (Bool) := (spec_l5In.f l 1 32).bind fun a => (some a)
theorem spec_l19Size.calls (l) (r : Bool) (w) (h : spec_l19Size.f l = some r) :
 Calls Try.prog 9 #[.int .i64 l] w fun e w' => e = .returned (.bool r) ∧ Drawn0 w w' := by
 have H : ((spec_l5In.f l 1 32).bind fun a => (some a)) = some r := h
 clear h
 replace H := z6 H
 obtain ⟨a, o, H⟩ := H
 have q := zK o
 clear o
 obtain rfl := z5 H
 go_enter Try.func9, Try.ntmps9
 go_wp2_with (first | ((with_reducible refine gc 15 rfl ?_); refine zF 4 Try.func15 #[.int .i64 l, .int .i64 1, .int .i64 32] rfl zL ?_; (with_reducible refine (spec_l5In.calls l 1 32 a _ q.out).mono ?_); rintro e w' ⟨rfl, ⟨nd, rfl⟩⟩; refine ⟨_, rfl, ?_⟩))
 go_ret
 exact ⟨zR, zD⟩
end Go.Proofs.Ytiabkadcgmamaaa.PFnExactFillSlots
