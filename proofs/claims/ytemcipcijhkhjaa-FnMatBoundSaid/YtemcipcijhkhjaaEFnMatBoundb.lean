import Derived.Test.YtemcipcijhkhjaaPFnMatBoundx13
namespace Go.Proofs.Ytemcipcijhkhjaa.Pure
open Go.RowKit Go.Proofs.Ytemcipcijhkhjaa.PFnMatBound Go.Proofs.YtemcipcijhkhjaaW.PrintWords Go.Proofs.YtemcipcijhkhjaaW.PrintLast Go.Proofs.YtemcipcijhkhjaaW.PrintMore

/-- The factor of each of the 256 scales, reckoned. -/
def okF (t : Nat) : Bool :=
  match impl_Factor.f 200 785 127 393 127 (3000 + (t : Int) * 20) 128, spec_Factor.f 400 785 127 393 127 (3000 + (t : Int) * 20) 128 with
  | some (m, s, b), some (m', s', b') => b && b' && decide (m = m') && decide (s = s') && decide (0 ≤ m) && decide (m ≤ 2147483648) && decide (20 ≤ s) && decide (s ≤ 62) && decide (2 * (m * (65536 * (3000 + (t : Int) * 20)) - 308505 * 2 ^ s.toNat) ≤ 65536 * (3000 + (t : Int) * 20)) && decide (-(65536 * (3000 + (t : Int) * 20)) ≤ 2 * (m * (65536 * (3000 + (t : Int) * 20)) - 308505 * 2 ^ s.toNat))
  | _, _ => false
theorem okF_all : ∀ t, t < 256 → okF t = true := by
  have h : (List.range 256).all okF = true := by decide +kernel
  intro t ht
  exact List.all_eq_true.1 h t (List.mem_range.2 ht)
end Go.Proofs.Ytemcipcijhkhjaa.Pure
