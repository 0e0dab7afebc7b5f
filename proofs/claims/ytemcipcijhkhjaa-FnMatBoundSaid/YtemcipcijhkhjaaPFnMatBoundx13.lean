-- Printed out of the translation by this session's own turned copy of a printer; Lean checks it.
import Derived.Test.YtemcipcijhkhjaaPFnMatBoundx0
import Derived.Test.YtemcipcijhkhjaaPFnMatBoundx1
import Derived.Test.YtemcipcijhkhjaaPFnMatBoundx2
import Derived.Test.YtemcipcijhkhjaaPFnMatBoundx6
import Derived.Test.YtemcipcijhkhjaaPFnMatBoundx7
import Derived.Test.YtemcipcijhkhjaaPFnMatBoundx11
import Derived.Test.YtemcipcijhkhjaaPFnMatBoundx12
namespace Go.Proofs.Ytemcipcijhkhjaa.PFnMatBound
open Go.RowKit Go.Proofs.YtemcipcijhkhjaaW.PrintWords Go.Proofs.YtemcipcijhkhjaaW.PrintLast Go.Proofs.YtemcipcijhkhjaaW.PrintMore
attribute [local go_sem] max2_int min2_int max_two min_two max_three min_three max_four min_four   -- for this text's walks alone
set_option linter.unusedVariables false
set_option linter.unusedSimpArgs false

/-! ### laws_FnMatBound: function 4 -/
mutual
def laws_FnMatBound.j0 : Nat → List Int → List Int → Bool → Option (Bool)
  | 0, _, _, _ => none
  | k + 1, x0, x1, x26 => if x26 = true then (some true) else ((laws_at.f x0 0).bind fun t275 => (laws_FnMatBound.l0 k x0 x1 (wrap64 (1 + (Int.tmod t275 8))) (([] : List Int)) (([] : List Int)) 0))
def laws_FnMatBound.l0 : Nat → List Int → List Int → Int → List Int → List Int → Int → Option (Bool)
  | 0, _, _, _, _, _, _ => none
  | k + 1, x0, x1, x5, x6, x7, x8 => if x8 < x5 then ((laws_at.f x0 (wrap64 (x8 + 1))).bind fun t282 => (if x6.length < 17592186044416 then ((laws_at.f x1 (wrap64 (x8 + 1))).bind fun t286 => (if x7.length < 17592186044416 then (laws_FnMatBound.l0 k x0 x1 x5 (x6 ++ [wrap64 ((wrap64 (t282 - 128)) * 700)]) (x7 ++ [wrap64 ((wrap64 (t286 - 128)) * 300)]) (wrap64 (x8 + 1))) else (none))) else (none))) else ((some (([(-100000), 100000] : List Int) : List Int)).bind fun y290 => (if y290.length + x6.length < 17592186044416 then ((impl_Calibrate.f k (y290 ++ x6)).bind fun bt296 => ((some (([(-50000), 50000] : List Int) : List Int)).bind fun y300 => (if y300.length + x7.length < 17592186044416 then ((impl_Calibrate.f k (y300 ++ x7)).bind fun bt306 => ((laws_at.f x1 0).bind fun t310 => (if bt296.2.2 = true then (laws_FnMatBound.j2 k x5 x6 x7 (!bt306.2.2) bt296.1 bt296.2.1 bt306.1 bt306.2.1 (wrap64 (3000 + (wrap64 (t310 * 20)))) 128) else (laws_FnMatBound.j2 k x5 x6 x7 true bt296.1 bt296.2.1 bt306.1 bt306.2.1 (wrap64 (3000 + (wrap64 (t310 * 20)))) 128)))) else (none)))) else (none)))
def laws_FnMatBound.j2 : Nat → Int → List Int → List Int → Bool → Int → Int → Int → Int → Int → Int → Option (Bool)
  | 0, _, _, _, _, _, _, _, _, _, _ => none
  | k + 1, x5, x6, x7, x80, x300000, x300001, x310000, x310001, x312000, x312001 => if x80 = true then (some false) else ((laws_quantised.f k x300000 x300001 x6).bind fun bt312 => ((laws_quantised.f k x310000 x310001 x7).bind fun bt316 => (if bt312.2 = true then (laws_FnMatBound.j3 k x5 x6 x7 bt312.1 bt316.1 (!bt316.2) x300000 x300001 x310000 x310001 x312000 x312001) else (laws_FnMatBound.j3 k x5 x6 x7 bt312.1 bt316.1 true x300000 x300001 x310000 x310001 x312000 x312001))))
def laws_FnMatBound.j3 : Nat → Int → List Int → List Int → List Int → List Int → Bool → Int → Int → Int → Int → Int → Int → Option (Bool)
  | 0, _, _, _, _, _, _, _, _, _, _, _, _ => none
  | k + 1, x5, x6, x7, x14, x16, x98, x300000, x300001, x310000, x310001, x312000, x312001 => if x98 = true then (some true) else ((impl_MatBytes.f k x14 x5 x300000 x300001 x16 1 x310000 x310001 (([0] : List Int)) x312000 x312001).bind fun t323 => (if (t323.length : Int) = 1 then ((spec_MatBytes.f k x14 x5 x300000 x300001 x16 1 x310000 x310001 (([0] : List Int)) x312000 x312001).bind fun t329 => ((laws_sameInts.f k t323 t329).bind fun t332 => (laws_FnMatBound.j4 k x5 x6 x7 t323 (!t332) x300000 x300001 x310000 x310001 x312000 x312001))) else (laws_FnMatBound.j4 k x5 x6 x7 t323 true x300000 x300001 x310000 x310001 x312000 x312001)))
def laws_FnMatBound.j4 : Nat → Int → List Int → List Int → List Int → Bool → Int → Int → Int → Int → Int → Int → Option (Bool)
  | 0, _, _, _, _, _, _, _, _, _, _, _ => none
  | k + 1, x5, x6, x7, x18, x122, x300000, x300001, x310000, x310001, x312000, x312001 => if x122 = true then (some false) else (laws_FnMatBound.l1 k x5 x6 x7 x18 0 0 x300000 x300001 x310000 x310001 x312000 x312001)
def laws_FnMatBound.l1 : Nat → Int → List Int → List Int → List Int → Int → Int → Int → Int → Int → Int → Int → Int → Option (Bool)
  | 0, _, _, _, _, _, _, _, _, _, _, _, _ => none
  | k + 1, x5, x6, x7, x18, x19, x20, x300000, x300001, x310000, x310001, x312000, x312001 => if x20 < x5 then (if 0 ≤ x20 then (if x20 < (x6.length : Int) then (if x20 < (x7.length : Int) then (laws_FnMatBound.l1 k x5 x6 x7 x18 (wrap64 (x19 + (wrap64 ((rd x6 x20) * (rd x7 x20))))) (wrap64 (x20 + 1)) x300000 x300001 x310000 x310001 x312000 x312001) else (none)) else (none)) else (none)) else (if 0 < (x18.length : Int) then (if (rd x18 0) = 0 then (laws_FnMatBound.j6 k x5 x18 x19 true x300000 x300001 x310000 x310001 x312000 x312001) else (laws_FnMatBound.j6 k x5 x18 x19 ((rd x18 0) == 255) x300000 x300001 x310000 x310001 x312000 x312001)) else (none))
def laws_FnMatBound.j6 : Nat → Int → List Int → Int → Bool → Int → Int → Int → Int → Int → Int → Option (Bool)
  | 0, _, _, _, _, _, _, _, _, _, _ => none
  | k + 1, x5, x18, x19, x148, x300000, x300001, x310000, x310001, x312000, x312001 => if x148 = true then (some true) else (if 0 < (x18.length : Int) then ((impl_Value.f x312000 x312001 (rd x18 0)).bind fun t338 => ((laws_abs.f (wrap64 ((wrap64 (t338 * 65536)) - x19))).bind fun t339 => ((impl_Bound.f k x5 x300000 x300001 x310000 x310001 x312000 x312001 89600 38400).bind fun t340 => (some (decide (t339 ≤ (wrap64 (t340 * 65536)))))))) else (none))
end
def laws_FnMatBound.f (k : Nat) (l0 : List Int) (l1 : List Int) : Option (Bool) := (laws_big.f l0).bind fun t273 => (if t273 = true then (laws_FnMatBound.j0 k l0 l1 true) else ((laws_big.f l1).bind fun t274 => (laws_FnMatBound.j0 k l0 l1 t274)))
theorem laws_FnMatBound.mono_l : ∀ k, (∀ y0 y1 y2, LeO (laws_FnMatBound.j0 k y0 y1 y2) (laws_FnMatBound.j0 (k + 1) y0 y1 y2)) ∧ (∀ y0 y1 y2 y3 y4 y5, LeO (laws_FnMatBound.l0 k y0 y1 y2 y3 y4 y5) (laws_FnMatBound.l0 (k + 1) y0 y1 y2 y3 y4 y5)) ∧ (∀ y0 y1 y2 y3 y4 y5 y6 y7 y8 y9, LeO (laws_FnMatBound.j2 k y0 y1 y2 y3 y4 y5 y6 y7 y8 y9) (laws_FnMatBound.j2 (k + 1) y0 y1 y2 y3 y4 y5 y6 y7 y8 y9)) ∧ (∀ y0 y1 y2 y3 y4 y5 y6 y7 y8 y9 y10 y11, LeO (laws_FnMatBound.j3 k y0 y1 y2 y3 y4 y5 y6 y7 y8 y9 y10 y11) (laws_FnMatBound.j3 (k + 1) y0 y1 y2 y3 y4 y5 y6 y7 y8 y9 y10 y11)) ∧ (∀ y0 y1 y2 y3 y4 y5 y6 y7 y8 y9 y10, LeO (laws_FnMatBound.j4 k y0 y1 y2 y3 y4 y5 y6 y7 y8 y9 y10) (laws_FnMatBound.j4 (k + 1) y0 y1 y2 y3 y4 y5 y6 y7 y8 y9 y10)) ∧ (∀ y0 y1 y2 y3 y4 y5 y6 y7 y8 y9 y10 y11, LeO (laws_FnMatBound.l1 k y0 y1 y2 y3 y4 y5 y6 y7 y8 y9 y10 y11) (laws_FnMatBound.l1 (k + 1) y0 y1 y2 y3 y4 y5 y6 y7 y8 y9 y10 y11)) ∧ (∀ y0 y1 y2 y3 y4 y5 y6 y7 y8 y9, LeO (laws_FnMatBound.j6 k y0 y1 y2 y3 y4 y5 y6 y7 y8 y9) (laws_FnMatBound.j6 (k + 1) y0 y1 y2 y3 y4 y5 y6 y7 y8 y9))
  | 0 => ⟨fun _ _ _ r h => by simp [laws_FnMatBound.j0] at h, fun _ _ _ _ _ _ r h => by simp [laws_FnMatBound.l0] at h, fun _ _ _ _ _ _ _ _ _ _ r h => by simp [laws_FnMatBound.j2] at h, fun _ _ _ _ _ _ _ _ _ _ _ _ r h => by simp [laws_FnMatBound.j3] at h, fun _ _ _ _ _ _ _ _ _ _ _ r h => by simp [laws_FnMatBound.j4] at h, fun _ _ _ _ _ _ _ _ _ _ _ _ r h => by simp [laws_FnMatBound.l1] at h, fun _ _ _ _ _ _ _ _ _ _ r h => by simp [laws_FnMatBound.j6] at h⟩
  | k + 1 => by
    obtain ⟨ih0, ih1, ih2, ih3, ih4, ih5, ih6⟩ := laws_FnMatBound.mono_l k
    refine ⟨?_, ?_, ?_, ?_, ?_, ?_, ?_⟩
    · intro y0 y1 y2
      unfold laws_FnMatBound.j0
      repeat' first
      | (with_reducible exact ih0 _ _ _)
      | (with_reducible exact ih1 _ _ _ _ _ _)
      | (with_reducible exact ih2 _ _ _ _ _ _ _ _ _ _)
      | (with_reducible exact ih3 _ _ _ _ _ _ _ _ _ _ _ _)
      | (with_reducible exact ih4 _ _ _ _ _ _ _ _ _ _ _)
      | (with_reducible exact ih5 _ _ _ _ _ _ _ _ _ _ _ _)
      | (with_reducible exact ih6 _ _ _ _ _ _ _ _ _ _)
      | (with_reducible exact impl_Bound.mono _ _ _ _ _ _ _ _ _ _)
      | (with_reducible exact impl_Calibrate.mono _ _)
      | (with_reducible exact impl_MatBytes.mono _ _ _ _ _ _ _ _ _ _ _ _)
      | (with_reducible exact laws_quantised.mono _ _ _ _)
      | (with_reducible exact laws_sameInts.mono _ _ _)
      | (with_reducible exact spec_MatBytes.mono _ _ _ _ _ _ _ _ _ _ _ _)
      | (with_reducible exact LeO.refl _)
      | (with_reducible exact LeO.none _)
      | (with_reducible refine LeO.ite ?_ ?_)
      | (with_reducible refine LeO.bind ?_ (fun _ => ?_))
      | exact ih0 _ _ _
      | exact ih1 _ _ _ _ _ _
      | exact ih2 _ _ _ _ _ _ _ _ _ _
      | exact ih3 _ _ _ _ _ _ _ _ _ _ _ _
      | exact ih4 _ _ _ _ _ _ _ _ _ _ _
      | exact ih5 _ _ _ _ _ _ _ _ _ _ _ _
      | exact ih6 _ _ _ _ _ _ _ _ _ _
      | exact impl_Bound.mono _ _ _ _ _ _ _ _ _ _
      | exact impl_Calibrate.mono _ _
      | exact impl_MatBytes.mono _ _ _ _ _ _ _ _ _ _ _ _
      | exact laws_quantised.mono _ _ _ _
      | exact laws_sameInts.mono _ _ _
      | exact spec_MatBytes.mono _ _ _ _ _ _ _ _ _ _ _ _
      | exact LeO.none _
      | refine LeO.ite ?_ ?_
      | refine LeO.bind ?_ (fun _ => ?_)
    · intro y0 y1 y2 y3 y4 y5
      unfold laws_FnMatBound.l0
      repeat' first
      | (with_reducible exact ih0 _ _ _)
      | (with_reducible exact ih1 _ _ _ _ _ _)
      | (with_reducible exact ih2 _ _ _ _ _ _ _ _ _ _)
      | (with_reducible exact ih3 _ _ _ _ _ _ _ _ _ _ _ _)
      | (with_reducible exact ih4 _ _ _ _ _ _ _ _ _ _ _)
      | (with_reducible exact ih5 _ _ _ _ _ _ _ _ _ _ _ _)
      | (with_reducible exact ih6 _ _ _ _ _ _ _ _ _ _)
      | (with_reducible exact impl_Bound.mono _ _ _ _ _ _ _ _ _ _)
      | (with_reducible exact impl_Calibrate.mono _ _)
      | (with_reducible exact impl_MatBytes.mono _ _ _ _ _ _ _ _ _ _ _ _)
      | (with_reducible exact laws_quantised.mono _ _ _ _)
      | (with_reducible exact laws_sameInts.mono _ _ _)
      | (with_reducible exact spec_MatBytes.mono _ _ _ _ _ _ _ _ _ _ _ _)
      | (with_reducible exact LeO.refl _)
      | (with_reducible exact LeO.none _)
      | (with_reducible refine LeO.ite ?_ ?_)
      | (with_reducible refine LeO.bind ?_ (fun _ => ?_))
      | exact ih0 _ _ _
      | exact ih1 _ _ _ _ _ _
      | exact ih2 _ _ _ _ _ _ _ _ _ _
      | exact ih3 _ _ _ _ _ _ _ _ _ _ _ _
      | exact ih4 _ _ _ _ _ _ _ _ _ _ _
      | exact ih5 _ _ _ _ _ _ _ _ _ _ _ _
      | exact ih6 _ _ _ _ _ _ _ _ _ _
      | exact impl_Bound.mono _ _ _ _ _ _ _ _ _ _
      | exact impl_Calibrate.mono _ _
      | exact impl_MatBytes.mono _ _ _ _ _ _ _ _ _ _ _ _
      | exact laws_quantised.mono _ _ _ _
      | exact laws_sameInts.mono _ _ _
      | exact spec_MatBytes.mono _ _ _ _ _ _ _ _ _ _ _ _
      | exact LeO.none _
      | refine LeO.ite ?_ ?_
      | refine LeO.bind ?_ (fun _ => ?_)
    · intro y0 y1 y2 y3 y4 y5 y6 y7 y8 y9
      unfold laws_FnMatBound.j2
      repeat' first
      | (with_reducible exact ih0 _ _ _)
      | (with_reducible exact ih1 _ _ _ _ _ _)
      | (with_reducible exact ih2 _ _ _ _ _ _ _ _ _ _)
      | (with_reducible exact ih3 _ _ _ _ _ _ _ _ _ _ _ _)
      | (with_reducible exact ih4 _ _ _ _ _ _ _ _ _ _ _)
      | (with_reducible exact ih5 _ _ _ _ _ _ _ _ _ _ _ _)
      | (with_reducible exact ih6 _ _ _ _ _ _ _ _ _ _)
      | (with_reducible exact impl_Bound.mono _ _ _ _ _ _ _ _ _ _)
      | (with_reducible exact impl_Calibrate.mono _ _)
      | (with_reducible exact impl_MatBytes.mono _ _ _ _ _ _ _ _ _ _ _ _)
      | (with_reducible exact laws_quantised.mono _ _ _ _)
      | (with_reducible exact laws_sameInts.mono _ _ _)
      | (with_reducible exact spec_MatBytes.mono _ _ _ _ _ _ _ _ _ _ _ _)
      | (with_reducible exact LeO.refl _)
      | (with_reducible exact LeO.none _)
      | (with_reducible refine LeO.ite ?_ ?_)
      | (with_reducible refine LeO.bind ?_ (fun _ => ?_))
      | exact ih0 _ _ _
      | exact ih1 _ _ _ _ _ _
      | exact ih2 _ _ _ _ _ _ _ _ _ _
      | exact ih3 _ _ _ _ _ _ _ _ _ _ _ _
      | exact ih4 _ _ _ _ _ _ _ _ _ _ _
      | exact ih5 _ _ _ _ _ _ _ _ _ _ _ _
      | exact ih6 _ _ _ _ _ _ _ _ _ _
      | exact impl_Bound.mono _ _ _ _ _ _ _ _ _ _
      | exact impl_Calibrate.mono _ _
      | exact impl_MatBytes.mono _ _ _ _ _ _ _ _ _ _ _ _
      | exact laws_quantised.mono _ _ _ _
      | exact laws_sameInts.mono _ _ _
      | exact spec_MatBytes.mono _ _ _ _ _ _ _ _ _ _ _ _
      | exact LeO.none _
      | refine LeO.ite ?_ ?_
      | refine LeO.bind ?_ (fun _ => ?_)
    · intro y0 y1 y2 y3 y4 y5 y6 y7 y8 y9 y10 y11
      unfold laws_FnMatBound.j3
      repeat' first
      | (with_reducible exact ih0 _ _ _)
      | (with_reducible exact ih1 _ _ _ _ _ _)
      | (with_reducible exact ih2 _ _ _ _ _ _ _ _ _ _)
      | (with_reducible exact ih3 _ _ _ _ _ _ _ _ _ _ _ _)
      | (with_reducible exact ih4 _ _ _ _ _ _ _ _ _ _ _)
      | (with_reducible exact ih5 _ _ _ _ _ _ _ _ _ _ _ _)
      | (with_reducible exact ih6 _ _ _ _ _ _ _ _ _ _)
      | (with_reducible exact impl_Bound.mono _ _ _ _ _ _ _ _ _ _)
      | (with_reducible exact impl_Calibrate.mono _ _)
      | (with_reducible exact impl_MatBytes.mono _ _ _ _ _ _ _ _ _ _ _ _)
      | (with_reducible exact laws_quantised.mono _ _ _ _)
      | (with_reducible exact laws_sameInts.mono _ _ _)
      | (with_reducible exact spec_MatBytes.mono _ _ _ _ _ _ _ _ _ _ _ _)
      | (with_reducible exact LeO.refl _)
      | (with_reducible exact LeO.none _)
      | (with_reducible refine LeO.ite ?_ ?_)
      | (with_reducible refine LeO.bind ?_ (fun _ => ?_))
      | exact ih0 _ _ _
      | exact ih1 _ _ _ _ _ _
      | exact ih2 _ _ _ _ _ _ _ _ _ _
      | exact ih3 _ _ _ _ _ _ _ _ _ _ _ _
      | exact ih4 _ _ _ _ _ _ _ _ _ _ _
      | exact ih5 _ _ _ _ _ _ _ _ _ _ _ _
      | exact ih6 _ _ _ _ _ _ _ _ _ _
      | exact impl_Bound.mono _ _ _ _ _ _ _ _ _ _
      | exact impl_Calibrate.mono _ _
      | exact impl_MatBytes.mono _ _ _ _ _ _ _ _ _ _ _ _
      | exact laws_quantised.mono _ _ _ _
      | exact laws_sameInts.mono _ _ _
      | exact spec_MatBytes.mono _ _ _ _ _ _ _ _ _ _ _ _
      | exact LeO.none _
      | refine LeO.ite ?_ ?_
      | refine LeO.bind ?_ (fun _ => ?_)
    · intro y0 y1 y2 y3 y4 y5 y6 y7 y8 y9 y10
      unfold laws_FnMatBound.j4
      repeat' first
      | (with_reducible exact ih0 _ _ _)
      | (with_reducible exact ih1 _ _ _ _ _ _)
      | (with_reducible exact ih2 _ _ _ _ _ _ _ _ _ _)
      | (with_reducible exact ih3 _ _ _ _ _ _ _ _ _ _ _ _)
      | (with_reducible exact ih4 _ _ _ _ _ _ _ _ _ _ _)
      | (with_reducible exact ih5 _ _ _ _ _ _ _ _ _ _ _ _)
      | (with_reducible exact ih6 _ _ _ _ _ _ _ _ _ _)
      | (with_reducible exact impl_Bound.mono _ _ _ _ _ _ _ _ _ _)
      | (with_reducible exact impl_Calibrate.mono _ _)
      | (with_reducible exact impl_MatBytes.mono _ _ _ _ _ _ _ _ _ _ _ _)
      | (with_reducible exact laws_quantised.mono _ _ _ _)
      | (with_reducible exact laws_sameInts.mono _ _ _)
      | (with_reducible exact spec_MatBytes.mono _ _ _ _ _ _ _ _ _ _ _ _)
      | (with_reducible exact LeO.refl _)
      | (with_reducible exact LeO.none _)
      | (with_reducible refine LeO.ite ?_ ?_)
      | (with_reducible refine LeO.bind ?_ (fun _ => ?_))
      | exact ih0 _ _ _
      | exact ih1 _ _ _ _ _ _
      | exact ih2 _ _ _ _ _ _ _ _ _ _
      | exact ih3 _ _ _ _ _ _ _ _ _ _ _ _
      | exact ih4 _ _ _ _ _ _ _ _ _ _ _
      | exact ih5 _ _ _ _ _ _ _ _ _ _ _ _
      | exact ih6 _ _ _ _ _ _ _ _ _ _
      | exact impl_Bound.mono _ _ _ _ _ _ _ _ _ _
      | exact impl_Calibrate.mono _ _
      | exact impl_MatBytes.mono _ _ _ _ _ _ _ _ _ _ _ _
      | exact laws_quantised.mono _ _ _ _
      | exact laws_sameInts.mono _ _ _
      | exact spec_MatBytes.mono _ _ _ _ _ _ _ _ _ _ _ _
      | exact LeO.none _
      | refine LeO.ite ?_ ?_
      | refine LeO.bind ?_ (fun _ => ?_)
    · intro y0 y1 y2 y3 y4 y5 y6 y7 y8 y9 y10 y11
      unfold laws_FnMatBound.l1
      repeat' first
      | (with_reducible exact ih0 _ _ _)
      | (with_reducible exact ih1 _ _ _ _ _ _)
      | (with_reducible exact ih2 _ _ _ _ _ _ _ _ _ _)
      | (with_reducible exact ih3 _ _ _ _ _ _ _ _ _ _ _ _)
      | (with_reducible exact ih4 _ _ _ _ _ _ _ _ _ _ _)
      | (with_reducible exact ih5 _ _ _ _ _ _ _ _ _ _ _ _)
      | (with_reducible exact ih6 _ _ _ _ _ _ _ _ _ _)
      | (with_reducible exact impl_Bound.mono _ _ _ _ _ _ _ _ _ _)
      | (with_reducible exact impl_Calibrate.mono _ _)
      | (with_reducible exact impl_MatBytes.mono _ _ _ _ _ _ _ _ _ _ _ _)
      | (with_reducible exact laws_quantised.mono _ _ _ _)
      | (with_reducible exact laws_sameInts.mono _ _ _)
      | (with_reducible exact spec_MatBytes.mono _ _ _ _ _ _ _ _ _ _ _ _)
      | (with_reducible exact LeO.refl _)
      | (with_reducible exact LeO.none _)
      | (with_reducible refine LeO.ite ?_ ?_)
      | (with_reducible refine LeO.bind ?_ (fun _ => ?_))
      | exact ih0 _ _ _
      | exact ih1 _ _ _ _ _ _
      | exact ih2 _ _ _ _ _ _ _ _ _ _
      | exact ih3 _ _ _ _ _ _ _ _ _ _ _ _
      | exact ih4 _ _ _ _ _ _ _ _ _ _ _
      | exact ih5 _ _ _ _ _ _ _ _ _ _ _ _
      | exact ih6 _ _ _ _ _ _ _ _ _ _
      | exact impl_Bound.mono _ _ _ _ _ _ _ _ _ _
      | exact impl_Calibrate.mono _ _
      | exact impl_MatBytes.mono _ _ _ _ _ _ _ _ _ _ _ _
      | exact laws_quantised.mono _ _ _ _
      | exact laws_sameInts.mono _ _ _
      | exact spec_MatBytes.mono _ _ _ _ _ _ _ _ _ _ _ _
      | exact LeO.none _
      | refine LeO.ite ?_ ?_
      | refine LeO.bind ?_ (fun _ => ?_)
    · intro y0 y1 y2 y3 y4 y5 y6 y7 y8 y9
      unfold laws_FnMatBound.j6
      repeat' first
      | (with_reducible exact ih0 _ _ _)
      | (with_reducible exact ih1 _ _ _ _ _ _)
      | (with_reducible exact ih2 _ _ _ _ _ _ _ _ _ _)
      | (with_reducible exact ih3 _ _ _ _ _ _ _ _ _ _ _ _)
      | (with_reducible exact ih4 _ _ _ _ _ _ _ _ _ _ _)
      | (with_reducible exact ih5 _ _ _ _ _ _ _ _ _ _ _ _)
      | (with_reducible exact ih6 _ _ _ _ _ _ _ _ _ _)
      | (with_reducible exact impl_Bound.mono _ _ _ _ _ _ _ _ _ _)
      | (with_reducible exact impl_Calibrate.mono _ _)
      | (with_reducible exact impl_MatBytes.mono _ _ _ _ _ _ _ _ _ _ _ _)
      | (with_reducible exact laws_quantised.mono _ _ _ _)
      | (with_reducible exact laws_sameInts.mono _ _ _)
      | (with_reducible exact spec_MatBytes.mono _ _ _ _ _ _ _ _ _ _ _ _)
      | (with_reducible exact LeO.refl _)
      | (with_reducible exact LeO.none _)
      | (with_reducible refine LeO.ite ?_ ?_)
      | (with_reducible refine LeO.bind ?_ (fun _ => ?_))
      | exact ih0 _ _ _
      | exact ih1 _ _ _ _ _ _
      | exact ih2 _ _ _ _ _ _ _ _ _ _
      | exact ih3 _ _ _ _ _ _ _ _ _ _ _ _
      | exact ih4 _ _ _ _ _ _ _ _ _ _ _
      | exact ih5 _ _ _ _ _ _ _ _ _ _ _ _
      | exact ih6 _ _ _ _ _ _ _ _ _ _
      | exact impl_Bound.mono _ _ _ _ _ _ _ _ _ _
      | exact impl_Calibrate.mono _ _
      | exact impl_MatBytes.mono _ _ _ _ _ _ _ _ _ _ _ _
      | exact laws_quantised.mono _ _ _ _
      | exact laws_sameInts.mono _ _ _
      | exact spec_MatBytes.mono _ _ _ _ _ _ _ _ _ _ _ _
      | exact LeO.none _
      | refine LeO.ite ?_ ?_
      | refine LeO.bind ?_ (fun _ => ?_)
theorem laws_FnMatBound.mono : ∀ a0 a1 k, LeO (laws_FnMatBound.f k a0 a1) (laws_FnMatBound.f (k + 1) a0 a1) := by
  intro a0 a1 k
  obtain ⟨ih0, ih1, ih2, ih3, ih4, ih5, ih6⟩ := laws_FnMatBound.mono_l k
  unfold laws_FnMatBound.f
  repeat' first
      | (with_reducible exact ih0 _ _ _)
      | (with_reducible exact ih1 _ _ _ _ _ _)
      | (with_reducible exact ih2 _ _ _ _ _ _ _ _ _ _)
      | (with_reducible exact ih3 _ _ _ _ _ _ _ _ _ _ _ _)
      | (with_reducible exact ih4 _ _ _ _ _ _ _ _ _ _ _)
      | (with_reducible exact ih5 _ _ _ _ _ _ _ _ _ _ _ _)
      | (with_reducible exact ih6 _ _ _ _ _ _ _ _ _ _)
      | (with_reducible exact impl_Bound.mono _ _ _ _ _ _ _ _ _ _)
      | (with_reducible exact impl_Calibrate.mono _ _)
      | (with_reducible exact impl_MatBytes.mono _ _ _ _ _ _ _ _ _ _ _ _)
      | (with_reducible exact laws_quantised.mono _ _ _ _)
      | (with_reducible exact laws_sameInts.mono _ _ _)
      | (with_reducible exact spec_MatBytes.mono _ _ _ _ _ _ _ _ _ _ _ _)
      | (with_reducible exact LeO.refl _)
      | (with_reducible exact LeO.none _)
      | (with_reducible refine LeO.ite ?_ ?_)
      | (with_reducible refine LeO.bind ?_ (fun _ => ?_))
      | exact ih0 _ _ _
      | exact ih1 _ _ _ _ _ _
      | exact ih2 _ _ _ _ _ _ _ _ _ _
      | exact ih3 _ _ _ _ _ _ _ _ _ _ _ _
      | exact ih4 _ _ _ _ _ _ _ _ _ _ _
      | exact ih5 _ _ _ _ _ _ _ _ _ _ _ _
      | exact ih6 _ _ _ _ _ _ _ _ _ _
      | exact impl_Bound.mono _ _ _ _ _ _ _ _ _ _
      | exact impl_Calibrate.mono _ _
      | exact impl_MatBytes.mono _ _ _ _ _ _ _ _ _ _ _ _
      | exact laws_quantised.mono _ _ _ _
      | exact laws_sameInts.mono _ _ _
      | exact spec_MatBytes.mono _ _ _ _ _ _ _ _ _ _ _ _
      | exact LeO.none _
      | refine LeO.ite ?_ ?_
      | refine LeO.bind ?_ (fun _ => ?_)
def laws_FnMatBound.T27 : Bool × List (List Nat × List Nat) := (true, [([], []), ([], []), ([], []), ([1, 2], [1, 2]), ([3], [3]), ([], []), ([], []), ([5, 6], [5, 6]), ([7], [7]), ([4, 8], [4, 8]), ([0, 9], [0, 9]), ([10, 0, 1, 2, 3, 4, 5, 6, 7, 8, 9, 10], [0, 10])])
def laws_FnMatBound.B27 : List Nat := [0, 0, 0, 6, 14, 0, 0, 96, 224, 510, 1023, 2047]
theorem laws_FnMatBound.tab27 : rtab .any (opsOf Try.f4 27) = laws_FnMatBound.T27 := by kernel_rfl
theorem laws_FnMatBound.bits27 : waitsOk laws_FnMatBound.T27.2 laws_FnMatBound.B27 = true := by kernel_rfl
def laws_FnMatBound.T30 : Bool × List (List Nat × List Nat) := (true, [([], []), ([], []), ([1], [1]), ([2], [2]), ([0, 3], [0, 3]), ([4], [4]), ([], []), ([5, 6], [5, 6]), ([7, 4], [7]), ([], []), ([], []), ([], []), ([], []), ([9, 10, 11, 12, 8], [9, 10, 11, 12]), ([13], [13]), ([8, 14], [8, 14]), ([15, 13, 0, 1, 2, 3, 4, 5, 6, 7, 8, 9, 10, 11, 12, 13, 14, 15], [15])])
def laws_FnMatBound.B30 : List Nat := [0, 0, 2, 6, 15, 31, 0, 127, 255, 0, 0, 0, 0, 8191, 16383, 32767, 65535]
theorem laws_FnMatBound.tab30 : rtab .any (opsOf Try.f4 30) = laws_FnMatBound.T30 := by kernel_rfl
theorem laws_FnMatBound.bits30 : waitsOk laws_FnMatBound.T30.2 laws_FnMatBound.B30 = true := by kernel_rfl
set_option maxHeartbeats 8000000 in
set_option maxRecDepth 100000 in
theorem laws_FnMatBound.calls (k : Nat) (A0 : Option Addr) (c0 : Nat) (l0 : List Int) (A1 : Option Addr) (c1 : Nat) (l1 : List Int) (r : Bool) (w : World) (hr0 : Kd.C (Kd.int .u8) w A0 l0.length l0) (hc0 : l0.length ≤ c0) (hr1 : Kd.C (Kd.int .u8) w A1 l1.length l1) (hc1 : l1.length ≤ c1) (h : laws_FnMatBound.f k l0 l1 = some r) :
    Calls Try.prog 4 #[.slice A0 l0.length c0, .slice A1 l1.length c1] w fun e w' => e = .returned (.bool r) ∧ Below w.heap.size w w' := by
  have hu45 := Try.underlying45
  have HR0 := zK hr0
  have HC0 := zK hc0
  clear hr0 hc0
  have HR1 := zK hr1
  have HC1 := zK hc1
  clear hr1 hc1
  have HB := zK (Below.refl w.heap.size w)
  have H : ((laws_big.f l0).bind fun t273 => (if t273 = true then (laws_FnMatBound.j0 k l0 l1 true) else ((laws_big.f l1).bind fun t274 => (laws_FnMatBound.j0 k l0 l1 t274)))) = some r := h
  clear h
  have HC3 := zK H
  clear H
  go_enter Try.func4, Try.ntmps4
  go_upto_region 1 with (fail)
  go_cut [26] (fun v26 wc => ∃ (kq : Nat) (x26_2 : Bool), v26 = .bool x26_2 ∧ Aside0 (laws_FnMatBound.j0 kq l0 l1 x26_2 = some r) ∧ Aside0 (kq ≤ k) ∧ Aside0 (Below w.heap.size w wc))
  case first =>
   have H := HC3.out
   clear HC3
   replace H := Option.bind_eq_some_iff.mp H
   obtain ⟨t273, A40, H⟩ := H
   replace H : (if t273 = true then (laws_FnMatBound.j0 k l0 l1 true) else ((laws_big.f l1).bind fun t274 => (laws_FnMatBound.j0 k l0 l1 t274))) = some r := H
   have A4 := zK A40
   clear A40
   by_cases c5 : t273 = true
   · subst c5
     have H1 : (laws_FnMatBound.j0 k l0 l1 true) = some r := by rw [if_pos rfl] at H; exact H
     clear H
     have H := H1
     clear H1
     have H' := zK H
     clear H
     go_wp2_with (first | ((with_reducible refine gate_callee (f := 14) rfl ?_); refine goesL_ (some 22) rfl rfl Try.func14 (by kernel_rfl) rfl #[.slice A0 l0.length c0] rfl zL ?_; (with_reducible refine (laws_big.calls _ _ l0 true _ ?side1 ?side2 A4.out).mono ?_); (case side1 => repeat (first | exact (Kd.C_below HR0.out HB.out) | (with_reducible refine Kd.C_alloc ?_ _) | (with_reducible refine Kd.C_drewN ?_ _) | (with_reducible refine Kd.C_drew ?_))); (case side2 => exact HC0.out); rintro e w' ⟨rfl, ⟨nd, rfl⟩⟩; refine ⟨_, rfl, ?_⟩))
     go_meet
     case rel => exact ⟨_, (true), zR, H', ⟨by first | omega | exact Nat.le_refl _⟩, ⟨zB⟩⟩
   replace c5 := Bool.eq_false_iff.mpr c5
   subst c5
   have H1 : ((laws_big.f l1).bind fun t274 => (laws_FnMatBound.j0 k l0 l1 t274)) = some r := by rw [if_neg (show ¬ (false = true) by decide)] at H; exact H
   clear H
   have H := H1
   clear H1
   replace H := Option.bind_eq_some_iff.mp H
   obtain ⟨t274, A60, H⟩ := H
   replace H : (laws_FnMatBound.j0 k l0 l1 t274) = some r := H
   have A6 := zK A60
   clear A60
   have H' := zK H
   clear H
   go_wp2_with (first | ((with_reducible refine gate_callee (f := 14) rfl ?_); refine goesL_ (some 22) rfl rfl Try.func14 (by kernel_rfl) rfl #[.slice A0 l0.length c0] rfl zL ?_; (with_reducible refine (laws_big.calls _ _ l0 false _ ?side1 ?side2 A4.out).mono ?_); (case side1 => repeat (first | exact (Kd.C_below HR0.out HB.out) | (with_reducible refine Kd.C_alloc ?_ _) | (with_reducible refine Kd.C_drewN ?_ _) | (with_reducible refine Kd.C_drew ?_))); (case side2 => exact HC0.out); rintro e w' ⟨rfl, ⟨nd, rfl⟩⟩; refine ⟨_, rfl, ?_⟩) | (go_at_call 14; (with_reducible refine (laws_big.calls _ _ l1 t274 _ ?side1 ?side2 A6.out).mono ?_); (case side1 => repeat (first | exact (Kd.C_below HR1.out zB) | (with_reducible refine Kd.C_alloc ?_ _) | (with_reducible refine Kd.C_drewN ?_ _) | (with_reducible refine Kd.C_drew ?_))); (case side2 => exact HC1.out); rintro e w' ⟨rfl, ⟨nd, rfl⟩⟩))
   go_meet
   case rel => exact ⟨_, (t274), zR, H', ⟨by first | omega | exact Nat.le_refl _⟩, ⟨zB⟩⟩
  case rest =>
   clear HC3
   try clear c1
   try clear p2
   try clear c4
   try clear c5
   obtain ⟨kq, x26_2, rfl, HA, HJ2, HB⟩ := hcut
   cases kq with
   | zero => exact absurd HA.out (by simp [laws_FnMatBound.j0])
   | succ kj2 =>
    have H := HA.out
    clear HA
    simp only [laws_FnMatBound.j0] at H
    by_cases c7 : x26_2 = true
    · subst c7
      have H1 : (some true) = some r := by rw [if_pos rfl] at H; exact H
      clear H
      have H := H1
      clear H1
      obtain rfl := Option.some.inj H
      go_wp2
      go_ret
      exact ⟨by first | rfl | (simp [errW_none, errW_some] <;> rfl) | (simp [*, errW_none, errW_some] <;> rfl), zB⟩
    replace c7 := Bool.eq_false_iff.mpr c7
    subst c7
    have H1 : ((laws_at.f l0 0).bind fun t275 => (laws_FnMatBound.l0 kj2 l0 l1 (wrap64 (1 + (Int.tmod t275 8))) (([] : List Int)) (([] : List Int)) 0)) = some r := by rw [if_neg (show ¬ (false = true) by decide)] at H; exact H
    clear H
    have H := H1
    clear H1
    replace H := Option.bind_eq_some_iff.mp H
    obtain ⟨t275, A80, H⟩ := H
    replace H : (laws_FnMatBound.l0 kj2 l0 l1 (wrap64 (1 + (Int.tmod t275 8))) (([] : List Int)) (([] : List Int)) 0) = some r := H
    have A8 := zK A80
    clear A80
    obtain ⟨y276, hy276⟩ : ∃ y_ : List Int, y_ = (([] : List Int)) := ⟨_, rfl⟩
    replace H : (laws_FnMatBound.l0 kj2 l0 l1 (wrap64 (1 + (Int.tmod t275 8))) y276 (([] : List Int)) 0) = some r := by first | (rw [hy276]; with_reducible exact H) | (have H2_ := (Option.bind_some _ _).symm.trans H; rw [hy276]; with_reducible exact H2_) | (have H2_ := (Option.bind_some _ _).symm.trans H; with_reducible exact H2_) | with_reducible exact H | (rw [hy276]; exact H) | exact H
    have Ny276 := zK hy276
    clear hy276
    obtain ⟨y279, hy279⟩ : ∃ y_ : List Int, y_ = (([] : List Int)) := ⟨_, rfl⟩
    replace H : (laws_FnMatBound.l0 kj2 l0 l1 (wrap64 (1 + (Int.tmod t275 8))) y276 y279 0) = some r := by first | (rw [hy279]; with_reducible exact H) | (have H2_ := (Option.bind_some _ _).symm.trans H; rw [hy279]; with_reducible exact H2_) | (have H2_ := (Option.bind_some _ _).symm.trans H; with_reducible exact H2_) | with_reducible exact H | (rw [hy279]; exact H) | exact H
    have Ny279 := zK hy279
    clear hy279
    have H' := zK H
    clear H
    go_wp2_with (first | ((with_reducible refine gate_callee (f := 15) rfl ?_); refine goesL_ (some 28) rfl rfl Try.func15 (by kernel_rfl) rfl #[.slice A0 l0.length c0, .int .i64 0] rfl zL ?_; (with_reducible refine (laws_at.calls _ _ l0 0 t275 _ ?side1 ?side2 A8.out).mono ?_); (case side1 => repeat (first | exact (Kd.C_below HR0.out HB.out) | (with_reducible refine Kd.C_alloc ?_ _) | (with_reducible refine Kd.C_drewN ?_ _) | (with_reducible refine Kd.C_drew ?_))); (case side2 => exact HC0.out); rintro e w' ⟨rfl, ⟨nd, rfl⟩⟩; refine ⟨_, rfl, ?_⟩) | ((with_reducible refine gate_dst (N := 31) rfl ?_); (try (refine gate_guard (by rfl) ?_; dsimp only)); refine Kd.R_lit (Kd.int .i64) _ 3 ?hg (N := 31) ?hd (xs := ([] : List Int)) (inner := []) (ok := fun _ => True) (okp := fun _ => True) ?hr ?hp (fun _ hk => hk) trivial (Below.refl _ _) (Nat.le_refl _) (by simp) ?_; (case hd => rfl); (case hg => rfl); (case hr => first | (go_simp; done) | (go_simp; rfl)); (case hp => exact (Reps.none _ _)); intro v277 w9 ho10 hb hg_ hnew_; clear hg_ hnew_; (first | rw [← Ny276.out] at ho10 | (simp only [Int.reduceToNat] at ho10; rw [← Ny276.out] at ho10)); have n0_ := zK (Kd.R_lower ho10 (zz zB)); have n1_ := zK (zp zB hb); clear HB; have HO278 := n0_; have HB := n1_; clear n0_ n1_; clear hb ho10) | ((with_reducible refine gate_dst (N := 32) rfl ?_); (try (refine gate_guard (by rfl) ?_; dsimp only)); refine Kd.R_lit (Kd.int .i64) _ 3 ?hg (N := 32) ?hd (xs := ([] : List Int)) (inner := []) (ok := fun _ => True) (okp := fun _ => True) ?hr ?hp (fun _ hk => hk) trivial (Below.refl _ _) (Nat.le_refl _) (by simp) ?_; (case hd => rfl); (case hg => rfl); (case hr => first | (go_simp; done) | (go_simp; rfl)); (case hp => exact (Reps.none _ _)); intro v280 w11 ho12 hb hg_ hnew_; clear hg_ hnew_; (first | rw [← Ny279.out] at ho12 | (simp only [Int.reduceToNat] at ho12; rw [← Ny279.out] at ho12)); have n0_ := zK (Kd.R_elder' (by (with_reducible repeat (first | apply Kd.R_alloc | apply Kd.R_drewN | apply Kd.R_drew)); exact HO278.out) (Kd.R_base ho12) hb); have n1_ := zK (Kd.R_lower (Kd.R_new' ho12 (Kd.R_lt (by (with_reducible repeat (first | apply Kd.R_alloc | apply Kd.R_drewN | apply Kd.R_drew)); exact HO278.out))) (zz zB)); have n2_ := zK (zp zB hb); clear HO278; clear HB; have HO278 := n0_; have HO281 := n1_; have HB := n2_; clear n0_ n1_ n2_; clear hb ho12))
    go_loopg [6, 7, 8] kj2 (fun kq v6 v7 v8 w' => ∃ (x6_2 : List Int) (x7_2 : List Int) (x8_2 : Int), v8 = .int .i64 x8_2 ∧ Aside0 (laws_FnMatBound.l0 kq l0 l1 (wrap64 (1 + (Int.tmod t275 8))) x6_2 x7_2 x8_2 = some r) ∧ Aside0 (kq ≤ kj2) ∧ Aside0 (Kd.R (Kd.int .i64) 3 w' w.heap.size (fun k_ => some k_ ≠ (v7 : Value).ownBlock) v6 x6_2) ∧ Aside0 (Kd.R (Kd.int .i64) 3 w' w.heap.size (fun k_ => some k_ ≠ (v6 : Value).ownBlock) v7 x7_2) ∧ Aside0 (Below w.heap.size w w'))
    case atStart => exact ⟨(y276), (y279), (0), zR, H', ⟨Nat.le_refl _⟩, ⟨by (with_reducible repeat (first | apply Kd.R_alloc | apply Kd.R_drewN | apply Kd.R_drew)); exact Kd.R_mono HO278.out (fun _ hk => hk.2)⟩, ⟨by (with_reducible repeat (first | apply Kd.R_alloc | apply Kd.R_drewN | apply Kd.R_drew)); exact Kd.R_mono HO281.out (fun _ hk => hk.2)⟩, ⟨zB⟩⟩
    clear H'
    try clear c1
    try clear p2
    try clear c4
    try clear c5
    try clear p6
    try clear c7
    try clear p2
    obtain ⟨x6_2, x7_2, x8_2, rfl, HA, HK2, HO_6, HO_7, HB⟩ := hrel
    rcases gk with _ | k2
    · exact absurd HA.out (by simp [laws_FnMatBound.l0])
    have H := HA.out
    clear HA
    simp only [laws_FnMatBound.l0] at H
    by_cases c13 : x8_2 < (wrap64 (1 + (Int.tmod t275 8)))
    · rw [if_pos c13] at H
      have c13b0 : decide (x8_2 < (wrap64 (1 + (Int.tmod t275 8)))) = true := decide_eq_true c13
      clear c13
      replace H := Option.bind_eq_some_iff.mp H
      obtain ⟨t282, A140, H⟩ := H
      replace H : (if x6_2.length < 17592186044416 then ((laws_at.f l1 (wrap64 (x8_2 + 1))).bind fun t286 => (if x7_2.length < 17592186044416 then (laws_FnMatBound.l0 k2 l0 l1 (wrap64 (1 + (Int.tmod t275 8))) (x6_2 ++ [wrap64 ((wrap64 (t282 - 128)) * 700)]) (x7_2 ++ [wrap64 ((wrap64 (t286 - 128)) * 300)]) (wrap64 (x8_2 + 1))) else (none))) else (none)) = some r := H
      have A14 := zK A140
      clear A140
      by_cases c15 : x6_2.length < 17592186044416
      rotate_left
      · rw [if_neg c15] at H
        exact absurd H (by simp)
      rw [if_pos c15] at H
      have LMc15 := zK c15
      clear c15
      obtain ⟨y283, hy283⟩ : ∃ y_ : List Int, y_ = (x6_2 ++ [wrap64 ((wrap64 (t282 - 128)) * 700)]) := ⟨_, rfl⟩
      replace H : ((laws_at.f l1 (wrap64 (x8_2 + 1))).bind fun t286 => (if x7_2.length < 17592186044416 then (laws_FnMatBound.l0 k2 l0 l1 (wrap64 (1 + (Int.tmod t275 8))) y283 (x7_2 ++ [wrap64 ((wrap64 (t286 - 128)) * 300)]) (wrap64 (x8_2 + 1))) else (none))) = some r := by first | (rw [hy283]; with_reducible exact H) | (have H2_ := (Option.bind_some _ _).symm.trans H; rw [hy283]; with_reducible exact H2_) | (have H2_ := (Option.bind_some _ _).symm.trans H; with_reducible exact H2_) | with_reducible exact H | (rw [hy283]; exact H) | exact H
      have Ny283 := zK hy283
      clear hy283
      replace H := Option.bind_eq_some_iff.mp H
      obtain ⟨t286, A160, H⟩ := H
      replace H : (if x7_2.length < 17592186044416 then (laws_FnMatBound.l0 k2 l0 l1 (wrap64 (1 + (Int.tmod t275 8))) y283 (x7_2 ++ [wrap64 ((wrap64 (t286 - 128)) * 300)]) (wrap64 (x8_2 + 1))) else (none)) = some r := H
      have A16 := zK A160
      clear A160
      by_cases c17 : x7_2.length < 17592186044416
      rotate_left
      · rw [if_neg c17] at H
        exact absurd H (by simp)
      rw [if_pos c17] at H
      have LMc17 := zK c17
      clear c17
      obtain ⟨y287, hy287⟩ : ∃ y_ : List Int, y_ = (x7_2 ++ [wrap64 ((wrap64 (t286 - 128)) * 300)]) := ⟨_, rfl⟩
      replace H : (laws_FnMatBound.l0 k2 l0 l1 (wrap64 (1 + (Int.tmod t275 8))) y283 y287 (wrap64 (x8_2 + 1))) = some r := by first | (rw [hy287]; with_reducible exact H) | (have H2_ := (Option.bind_some _ _).symm.trans H; rw [hy287]; with_reducible exact H2_) | (have H2_ := (Option.bind_some _ _).symm.trans H; with_reducible exact H2_) | with_reducible exact H | (rw [hy287]; exact H) | exact H
      have Ny287 := zK hy287
      clear hy287
      have H' := zK H
      clear H
      go_wp2_with (first | ((with_reducible refine gate_callee (f := 15) rfl ?_); refine goesL_ (some 42) rfl rfl Try.func15 (by kernel_rfl) rfl #[.slice A0 l0.length c0, .int .i64 (wrap64 (x8_2 + 1))] rfl zL ?_; (with_reducible refine (laws_at.calls _ _ l0 (wrap64 (x8_2 + 1)) t282 _ ?side1 ?side2 A14.out).mono ?_); (case side1 => repeat (first | exact (Kd.C_below HR0.out HB.out) | (with_reducible refine Kd.C_alloc ?_ _) | (with_reducible refine Kd.C_drewN ?_ _) | (with_reducible refine Kd.C_drew ?_))); (case side2 => exact HC0.out); rintro e w' ⟨rfl, ⟨nd, rfl⟩⟩; refine ⟨_, rfl, ?_⟩) | ((with_reducible refine gate_builtin (b := .append) (xs := #[.tmp 38, .tmp 45]) rfl ?_); (try (refine gate_guard (by rfl) ?_; dsimp only)); at_builtin; refine Kd.R_append (Kd.int .i64) (w0 := w) w.heap.size rfl (.tmp 38) (.tmp 45) 22 3 (.int .i64 0) 8 rfl Try.underlying22 info3 rfl (by decide) (by omega) u6 x6_2 (wrap64 ((wrap64 (t282 - 128)) * 700)) [.int .i64 (wrap64 ((wrap64 (t282 - 128)) * 700))] (fun k_ => some k_ ≠ (u7 : Value).ownBlock) (fun _ => False) rfl rfl ?aP (fun _ hk => hk.elim) ?aF ?aO ?aB ?aS ?aL ?_; (case aP => exact rfl); (case aB => exact zB); (case aF => exact (fun k_ hk => Kd.fresh' (Kd.R_lt (by (with_reducible repeat (first | apply Kd.R_alloc | apply Kd.R_drewN | apply Kd.R_drew)); exact HO_7.out)) k_ hk)); (case aO => exact (by (with_reducible repeat (first | apply Kd.R_alloc | apply Kd.R_drewN | apply Kd.R_drew)); exact HO_6.out)); (case aS => exact (zz zB)); (case aL => have := LMc15.out; omega); intro v284 w18 ho hb hg hat; rw [← Ny283.out] at ho; have n0_ := zK (Kd.R_after (ok := (fun _ => True)) (by (with_reducible repeat (first | apply Kd.R_alloc | apply Kd.R_drewN | apply Kd.R_drew)); exact Kd.R_mono HO_7.out (fun _ hk => ⟨trivial, hk⟩)) hg hat); have n1_ := zK (hb); have n2_ := zK (ho); clear HO_7; clear HB; clear HO_6; have HO_7 := n0_; have HB := n1_; have HO285 := n2_; clear n0_ n1_ n2_; clear ho hb hg hat) | ((with_reducible refine gate_callee (f := 15) rfl ?_); refine goesL_ (some 51) rfl rfl Try.func15 (by kernel_rfl) rfl #[.slice A1 l1.length c1, .int .i64 (wrap64 (x8_2 + 1))] rfl zL ?_; (with_reducible refine (laws_at.calls _ _ l1 (wrap64 (x8_2 + 1)) t286 _ ?side1 ?side2 A16.out).mono ?_); (case side1 => repeat (first | exact (Kd.C_below HR1.out HB.out) | (with_reducible refine Kd.C_alloc ?_ _) | (with_reducible refine Kd.C_drewN ?_ _) | (with_reducible refine Kd.C_drew ?_))); (case side2 => exact HC1.out); rintro e w' ⟨rfl, ⟨nd, rfl⟩⟩; refine ⟨_, rfl, ?_⟩) | ((with_reducible refine gate_builtin (b := .append) (xs := #[.tmp 47, .tmp 54]) rfl ?_); (try (refine gate_guard (by rfl) ?_; dsimp only)); at_builtin; refine Kd.R_append (Kd.int .i64) (w0 := w) w.heap.size rfl (.tmp 47) (.tmp 54) 22 3 (.int .i64 0) 8 rfl Try.underlying22 info3 rfl (by decide) (by omega) u7 x7_2 (wrap64 ((wrap64 (t286 - 128)) * 300)) [.int .i64 (wrap64 ((wrap64 (t286 - 128)) * 300))] (fun k_ => some k_ ≠ (v284 : Value).ownBlock) (fun _ => False) rfl rfl ?aP (fun _ hk => hk.elim) ?aF ?aO ?aB ?aS ?aL ?_; (case aP => exact rfl); (case aB => exact zB); (case aF => exact (fun k_ hk => Kd.fresh' (Kd.R_lt (by (with_reducible repeat (first | apply Kd.R_alloc | apply Kd.R_drewN | apply Kd.R_drew)); exact HO285.out)) k_ hk)); (case aO => exact (by (with_reducible repeat (first | apply Kd.R_alloc | apply Kd.R_drewN | apply Kd.R_drew)); exact Kd.R_mono HO_7.out (fun _ hk => hk.2))); (case aS => exact (zz zB)); (case aL => have := LMc17.out; omega); intro v288 w19 ho hb hg hat; rw [← Ny287.out] at ho; have n0_ := zK (Kd.R_after (ok := (fun _ => True)) (by (with_reducible repeat (first | apply Kd.R_alloc | apply Kd.R_drewN | apply Kd.R_drew)); exact Kd.R_mono HO285.out (fun _ hk => ⟨trivial, hk⟩)) hg hat); have n1_ := zK (hb); have n2_ := zK (ho); clear HO285; clear HB; clear HO_7; have HO285 := n0_; have HB := n1_; have HO289 := n2_; clear n0_ n1_ n2_; clear ho hb hg hat))
      go_roundg k2
      case measure => have := HJ2.out; have := HK2.out; omega
      case rel => exact ⟨(y283), (y287), (wrap64 (x8_2 + 1)), zR, H', ⟨by have := HJ2.out; have := HK2.out; omega⟩, ⟨by (with_reducible repeat (first | apply Kd.R_alloc | apply Kd.R_drewN | apply Kd.R_drew)); exact Kd.R_mono HO285.out (fun _ hk => hk.2)⟩, ⟨by (with_reducible repeat (first | apply Kd.R_alloc | apply Kd.R_drewN | apply Kd.R_drew)); exact HO289.out⟩, ⟨zB⟩⟩
    rw [if_neg c13] at H
    have c13b0 : decide (x8_2 < (wrap64 (1 + (Int.tmod t275 8)))) = false := decide_eq_false c13
    clear c13
    obtain ⟨y290, hy290⟩ : ∃ y_ : List Int, y_ = (([(-100000), 100000] : List Int)) := ⟨_, rfl⟩
    replace H : (if y290.length + x6_2.length < 17592186044416 then ((impl_Calibrate.f k2 (y290 ++ x6_2)).bind fun bt296 => ((some (([(-50000), 50000] : List Int) : List Int)).bind fun y300 => (if y300.length + x7_2.length < 17592186044416 then ((impl_Calibrate.f k2 (y300 ++ x7_2)).bind fun bt306 => ((laws_at.f l1 0).bind fun t310 => (if bt296.2.2 = true then (laws_FnMatBound.j2 k2 (wrap64 (1 + (Int.tmod t275 8))) x6_2 x7_2 (!bt306.2.2) bt296.1 bt296.2.1 bt306.1 bt306.2.1 (wrap64 (3000 + (wrap64 (t310 * 20)))) 128) else (laws_FnMatBound.j2 k2 (wrap64 (1 + (Int.tmod t275 8))) x6_2 x7_2 true bt296.1 bt296.2.1 bt306.1 bt306.2.1 (wrap64 (3000 + (wrap64 (t310 * 20)))) 128)))) else (none)))) else (none)) = some r := by first | (rw [hy290]; with_reducible exact H) | (have H2_ := (Option.bind_some _ _).symm.trans H; rw [hy290]; with_reducible exact H2_) | (have H2_ := (Option.bind_some _ _).symm.trans H; with_reducible exact H2_) | with_reducible exact H | (rw [hy290]; exact H) | exact H
    have Ny290 := zK hy290
    clear hy290
    by_cases c20 : y290.length + x6_2.length < 17592186044416
    rotate_left
    · rw [if_neg c20] at H
      exact absurd H (by simp)
    rw [if_pos c20] at H
    have LMc20 := zK c20
    clear c20
    obtain ⟨y293, hy293⟩ : ∃ y_ : List Int, y_ = (y290 ++ x6_2) := ⟨_, rfl⟩
    replace H : ((impl_Calibrate.f k2 y293).bind fun bt296 => ((some (([(-50000), 50000] : List Int) : List Int)).bind fun y300 => (if y300.length + x7_2.length < 17592186044416 then ((impl_Calibrate.f k2 (y300 ++ x7_2)).bind fun bt306 => ((laws_at.f l1 0).bind fun t310 => (if bt296.2.2 = true then (laws_FnMatBound.j2 k2 (wrap64 (1 + (Int.tmod t275 8))) x6_2 x7_2 (!bt306.2.2) bt296.1 bt296.2.1 bt306.1 bt306.2.1 (wrap64 (3000 + (wrap64 (t310 * 20)))) 128) else (laws_FnMatBound.j2 k2 (wrap64 (1 + (Int.tmod t275 8))) x6_2 x7_2 true bt296.1 bt296.2.1 bt306.1 bt306.2.1 (wrap64 (3000 + (wrap64 (t310 * 20)))) 128)))) else (none)))) = some r := by first | (rw [hy293]; with_reducible exact H) | (have H2_ := (Option.bind_some _ _).symm.trans H; rw [hy293]; with_reducible exact H2_) | (have H2_ := (Option.bind_some _ _).symm.trans H; with_reducible exact H2_) | with_reducible exact H | (rw [hy293]; exact H) | exact H
    have Ny293 := zK hy293
    clear hy293
    replace H := Option.bind_eq_some_iff.mp H
    obtain ⟨⟨t296, t297, t298⟩, A210, H⟩ := H
    replace H : ((some (([(-50000), 50000] : List Int) : List Int)).bind fun y300 => (if y300.length + x7_2.length < 17592186044416 then ((impl_Calibrate.f k2 (y300 ++ x7_2)).bind fun bt306 => ((laws_at.f l1 0).bind fun t310 => (if t298 = true then (laws_FnMatBound.j2 k2 (wrap64 (1 + (Int.tmod t275 8))) x6_2 x7_2 (!bt306.2.2) t296 t297 bt306.1 bt306.2.1 (wrap64 (3000 + (wrap64 (t310 * 20)))) 128) else (laws_FnMatBound.j2 k2 (wrap64 (1 + (Int.tmod t275 8))) x6_2 x7_2 true t296 t297 bt306.1 bt306.2.1 (wrap64 (3000 + (wrap64 (t310 * 20)))) 128)))) else (none))) = some r := H
    have A21 := zK A210
    clear A210
    obtain ⟨y300, hy300⟩ : ∃ y_ : List Int, y_ = (([(-50000), 50000] : List Int)) := ⟨_, rfl⟩
    replace H : (if y300.length + x7_2.length < 17592186044416 then ((impl_Calibrate.f k2 (y300 ++ x7_2)).bind fun bt306 => ((laws_at.f l1 0).bind fun t310 => (if t298 = true then (laws_FnMatBound.j2 k2 (wrap64 (1 + (Int.tmod t275 8))) x6_2 x7_2 (!bt306.2.2) t296 t297 bt306.1 bt306.2.1 (wrap64 (3000 + (wrap64 (t310 * 20)))) 128) else (laws_FnMatBound.j2 k2 (wrap64 (1 + (Int.tmod t275 8))) x6_2 x7_2 true t296 t297 bt306.1 bt306.2.1 (wrap64 (3000 + (wrap64 (t310 * 20)))) 128)))) else (none)) = some r := by first | (rw [hy300]; with_reducible exact H) | (have H2_ := (Option.bind_some _ _).symm.trans H; rw [hy300]; with_reducible exact H2_) | (have H2_ := (Option.bind_some _ _).symm.trans H; with_reducible exact H2_) | with_reducible exact H | (rw [hy300]; exact H) | exact H
    have Ny300 := zK hy300
    clear hy300
    by_cases c22 : y300.length + x7_2.length < 17592186044416
    rotate_left
    · rw [if_neg c22] at H
      exact absurd H (by simp)
    rw [if_pos c22] at H
    have LMc22 := zK c22
    clear c22
    obtain ⟨y303, hy303⟩ : ∃ y_ : List Int, y_ = (y300 ++ x7_2) := ⟨_, rfl⟩
    replace H : ((impl_Calibrate.f k2 y303).bind fun bt306 => ((laws_at.f l1 0).bind fun t310 => (if t298 = true then (laws_FnMatBound.j2 k2 (wrap64 (1 + (Int.tmod t275 8))) x6_2 x7_2 (!bt306.2.2) t296 t297 bt306.1 bt306.2.1 (wrap64 (3000 + (wrap64 (t310 * 20)))) 128) else (laws_FnMatBound.j2 k2 (wrap64 (1 + (Int.tmod t275 8))) x6_2 x7_2 true t296 t297 bt306.1 bt306.2.1 (wrap64 (3000 + (wrap64 (t310 * 20)))) 128)))) = some r := by first | (rw [hy303]; with_reducible exact H) | (have H2_ := (Option.bind_some _ _).symm.trans H; rw [hy303]; with_reducible exact H2_) | (have H2_ := (Option.bind_some _ _).symm.trans H; with_reducible exact H2_) | with_reducible exact H | (rw [hy303]; exact H) | exact H
    have Ny303 := zK hy303
    clear hy303
    replace H := Option.bind_eq_some_iff.mp H
    obtain ⟨⟨t306, t307, t308⟩, A230, H⟩ := H
    replace H : ((laws_at.f l1 0).bind fun t310 => (if t298 = true then (laws_FnMatBound.j2 k2 (wrap64 (1 + (Int.tmod t275 8))) x6_2 x7_2 (!t308) t296 t297 t306 t307 (wrap64 (3000 + (wrap64 (t310 * 20)))) 128) else (laws_FnMatBound.j2 k2 (wrap64 (1 + (Int.tmod t275 8))) x6_2 x7_2 true t296 t297 t306 t307 (wrap64 (3000 + (wrap64 (t310 * 20)))) 128))) = some r := H
    have A23 := zK A230
    clear A230
    replace H := Option.bind_eq_some_iff.mp H
    obtain ⟨t310, A240, H⟩ := H
    replace H : (if t298 = true then (laws_FnMatBound.j2 k2 (wrap64 (1 + (Int.tmod t275 8))) x6_2 x7_2 (!t308) t296 t297 t306 t307 (wrap64 (3000 + (wrap64 (t310 * 20)))) 128) else (laws_FnMatBound.j2 k2 (wrap64 (1 + (Int.tmod t275 8))) x6_2 x7_2 true t296 t297 t306 t307 (wrap64 (3000 + (wrap64 (t310 * 20)))) 128)) = some r := H
    have A24 := zK A240
    clear A240
    have HC25 := zK H
    clear H
    go_upto_region 14 with (first | ((with_reducible refine gate_dst (N := 57) rfl ?_); (try (refine gate_guard (by rfl) ?_; dsimp only)); refine Kd.R_lit (Kd.int .i64) _ 3 ?hg (N := 57) ?hd (xs := ([(-100000), 100000] : List Int)) (inner := [.int .i64 (-100000), .int .i64 100000]) (ok := fun _ => True) (okp := fun _ => True) ?hr ?hp (fun _ hk => hk) trivial (Below.refl _ _) (Nat.le_refl _) (by simp) ?_; (case hd => rfl); (case hg => rfl); (case hr => first | (go_simp; done) | (go_simp; rfl)); (case hp => exact (Reps.one (show Kd.M (Kd.int .i64) _ _ _ (-100000) [.int .i64 (-100000)] from rfl) (Reps.one (show Kd.M (Kd.int .i64) _ _ _ 100000 [.int .i64 100000] from rfl) (Reps.none _ _)))); intro v291 w26 ho27 hb hg_ hnew_; clear hg_ hnew_; (first | rw [← Ny290.out] at ho27 | (simp only [Int.reduceToNat] at ho27; rw [← Ny290.out] at ho27)); have n0_ := zK (Kd.R_elder' (by (with_reducible repeat (first | apply Kd.R_alloc | apply Kd.R_drewN | apply Kd.R_drew)); exact HO_6.out) (Kd.R_base ho27) hb); have n1_ := zK (Kd.R_elder' (by (with_reducible repeat (first | apply Kd.R_alloc | apply Kd.R_drewN | apply Kd.R_drew)); exact HO_7.out) (Kd.R_base ho27) hb); have n2_ := zK (Kd.R_lower (Kd.R_new' (Kd.R_new' ho27 (Kd.R_lt (by (with_reducible repeat (first | apply Kd.R_alloc | apply Kd.R_drewN | apply Kd.R_drew)); exact HO_6.out))) (Kd.R_lt (by (with_reducible repeat (first | apply Kd.R_alloc | apply Kd.R_drewN | apply Kd.R_drew)); exact HO_7.out))) (zz zB)); have n3_ := zK (zp zB hb); clear HO_6; clear HO_7; clear HB; have HO_6 := n0_; have HO_7 := n1_; have HO292 := n2_; have HB := n3_; clear n0_ n1_ n2_ n3_; clear hb ho27; obtain ⟨Ao29, co29, eo29⟩ := Kd.R_slice HO_6.out; subst eo29) | ((with_reducible refine gate_builtin (b := .append) (xs := #[.tmp 57, .tmp 58]) rfl ?_); (try (refine gate_guard (by rfl) ?_; dsimp only)); at_builtin; refine Kd.R_append_rows (Kd.int .i64) (w0 := w) w.heap.size rfl (.tmp 57) (.tmp 58) 22 3 (.int .i64 0) 8 rfl Try.underlying22 info3 rfl (by decide) (by omega) v291 y290 x6_2 _ _ _ (fun k_ => some k_ ≠ (.slice Ao29 x6_2.length co29 : Value).ownBlock ∧ some k_ ≠ (u7 : Value).ownBlock) (fun _ => False) rfl rfl ?aO ?aR (fun _ _ h => h) (fun _ h => h.elim) ?aF ?aB ?aS ?aL ?_; (case aR => repeat (first | exact (Kd.R_reads' HO_6.out).2.2 | (with_reducible refine Kd.C_alloc ?_ _) | (with_reducible refine Kd.C_drewN ?_ _) | (with_reducible refine Kd.C_drew ?_))); (case aB => exact zB); (case aF => exact (fun k_ hk => ⟨Kd.fresh' (Kd.R_lt (by (with_reducible repeat (first | apply Kd.R_alloc | apply Kd.R_drewN | apply Kd.R_drew)); exact HO_6.out)) k_ hk, Kd.fresh' (Kd.R_lt (by (with_reducible repeat (first | apply Kd.R_alloc | apply Kd.R_drewN | apply Kd.R_drew)); exact HO_7.out)) k_ hk⟩)); (case aO => exact (by (with_reducible repeat (first | apply Kd.R_alloc | apply Kd.R_drewN | apply Kd.R_drew)); exact Kd.R_mono HO292.out (fun _ hk => ⟨hk.1.2, hk.2⟩))); (case aS => exact (zz zB)); (case aL => have := LMc20.out; omega); intro v294 w28 ho hb hg hat; rw [← Ny293.out] at ho; have n0_ := zK (Kd.R_after (ok := (fun k_ => some k_ ≠ (u7 : Value).ownBlock)) (by (with_reducible repeat (first | apply Kd.R_alloc | apply Kd.R_drewN | apply Kd.R_drew)); exact HO_6.out) hg hat); have n1_ := zK (Kd.R_after (ok := (fun k_ => some k_ ≠ (.slice Ao29 x6_2.length co29 : Value).ownBlock)) (by (with_reducible repeat (first | apply Kd.R_alloc | apply Kd.R_drewN | apply Kd.R_drew)); exact HO_7.out) hg hat); have n2_ := zK (hb); have n3_ := zK (ho); clear HO_6; clear HO_7; clear HB; clear HO292; have HO_6 := n0_; have HO_7 := n1_; have HB := n2_; have HO295 := n3_; clear n0_ n1_ n2_ n3_; clear ho hb hg hat; obtain ⟨Ao30, co30, eo30⟩ := Kd.R_slice HO295.out; subst eo30) | ((with_reducible refine gate_callee (f := 16) rfl ?_); refine goesL_ (some 60) rfl rfl Try.func16 (by kernel_rfl) rfl #[.slice Ao30 y293.length co30] rfl zL ?_; (with_reducible refine (impl_Calibrate.calls k2 _ _ y293 t296 t297 t298 _ ?side1 ?side2 A21.out).mono ?_); (case side1 => repeat (first | exact (Kd.R_reads' HO295.out).2.2 | (with_reducible refine Kd.C_alloc ?_ _) | (with_reducible refine Kd.C_drewN ?_ _) | (with_reducible refine Kd.C_drew ?_))); (case side2 => exact (Kd.R_reads' HO295.out).2.1); rintro e w31 ⟨rfl, hb⟩; refine ⟨_, rfl, ?_⟩; have n0_ := zK (Kd.R_below (by (with_reducible repeat (first | apply Kd.R_alloc | apply Kd.R_drewN | apply Kd.R_drew)); exact HO_6.out) hb); have n1_ := zK (Kd.R_below (by (with_reducible repeat (first | apply Kd.R_alloc | apply Kd.R_drewN | apply Kd.R_drew)); exact HO_7.out) hb); have n2_ := zK (Kd.R_below (by (with_reducible repeat (first | apply Kd.R_alloc | apply Kd.R_drewN | apply Kd.R_drew)); exact HO295.out) hb); have n3_ := zK (zp zB hb); clear HO_6; clear HO_7; clear HO295; clear HB; have HO_6 := n0_; have HO_7 := n1_; have HO295 := n2_; have HB := n3_; clear n0_ n1_ n2_ n3_; (try clear hb); (try clear hb2); (try clear hk); (try clear hi)) | ((with_reducible refine gate_dst (N := 9) rfl ?_); (try (refine gate_guard (by rfl) ?_; dsimp only)); refine box_event ?hg (N := 9) ?hd (cs := #[.int .i64 0, .int .i64 0]) (t := 45) ?hr ?_; (case hd => rfl); (case hg => rfl); (case hr => first | (go_simp; done) | (go_simp; rfl)); intro gb299 hg w32 hbox hb; have n0_ := zK (Kd.R_below (by (with_reducible repeat (first | apply Kd.R_alloc | apply Kd.R_drewN | apply Kd.R_drew)); exact HO_6.out) hb); have n1_ := zK (Kd.R_below (by (with_reducible repeat (first | apply Kd.R_alloc | apply Kd.R_drewN | apply Kd.R_drew)); exact HO_7.out) hb); have n2_ := zK (Kd.R_below (by (with_reducible repeat (first | apply Kd.R_alloc | apply Kd.R_drewN | apply Kd.R_drew)); exact HO295.out) hb); have n3_ := zK (zp zB hb); have n4_ := zK (hbox); have n5_ := zK ((by rw [hg]; exact (zz zB) : w.heap.size ≤ gb299)); have n6_ := zK ((by rw [hg]; exact (zz zB) : w.heap.size ≤ gb299)); clear HO_6; clear HO_7; clear HO295; clear HB; have HO_6 := n0_; have HO_7 := n1_; have HO295 := n2_; have HB := n3_; have BK299 := n4_; have GW299 := n5_; have GE299 := n6_; clear n0_ n1_ n2_ n3_ n4_ n5_ n6_; clear hb hbox hg; have hcz33_0 : w32.cell? ⟨gb299, 0, none⟩ = some (.int .i64 0) := (zc BK299.out 0).trans rfl; have hcz33_1 : w32.cell? ⟨gb299, 1, none⟩ = some (.int .i64 0) := (zc BK299.out 1).trans rfl; have hfz33_0 := zf BK299.out 0; have hfz33_1 := zf BK299.out 1) | ((with_reducible refine gate_dst (N := 64) rfl ?_); (try (refine gate_guard (by rfl) ?_; dsimp only)); refine Kd.R_lit (Kd.int .i64) _ 3 ?hg (N := 64) ?hd (xs := ([(-50000), 50000] : List Int)) (inner := [.int .i64 (-50000), .int .i64 50000]) (ok := fun _ => True) (okp := fun _ => True) ?hr ?hp (fun _ hk => hk) trivial (Below.refl _ _) (Nat.le_refl _) (by simp) ?_; (case hd => rfl); (case hg => rfl); (case hr => first | (go_simp; done) | (go_simp; rfl)); (case hp => exact (Reps.one (show Kd.M (Kd.int .i64) _ _ _ (-50000) [.int .i64 (-50000)] from rfl) (Reps.one (show Kd.M (Kd.int .i64) _ _ _ 50000 [.int .i64 50000] from rfl) (Reps.none _ _)))); intro v301 w34 ho35 hb hg_ hnew_; clear hg_ hnew_; (first | rw [← Ny300.out] at ho35 | (simp only [Int.reduceToNat] at ho35; rw [← Ny300.out] at ho35)); have n0_ := zK (Kd.R_elder' (by (with_reducible repeat (first | apply Kd.R_alloc | apply Kd.R_drewN | apply Kd.R_drew)); exact (Kd.R_mono (Kd.R_far (p := ⟨gb299, 1, none⟩) (Kd.R_far (p := ⟨gb299, 0, none⟩) (Kd.R_types HO_6.out BK299.out (by decide)) (fun _ hk => hk.2) (.int .i64 t296)) (fun _ hk => hk.2) (.int .i64 t297)) (fun _ h_ => h_.1))) (Kd.R_base ho35) hb); have n1_ := zK (Kd.R_elder' (by (with_reducible repeat (first | apply Kd.R_alloc | apply Kd.R_drewN | apply Kd.R_drew)); exact (Kd.R_mono (Kd.R_far (p := ⟨gb299, 1, none⟩) (Kd.R_far (p := ⟨gb299, 0, none⟩) (Kd.R_types HO_7.out BK299.out (by decide)) (fun _ hk => hk.2) (.int .i64 t296)) (fun _ hk => hk.2) (.int .i64 t297)) (fun _ h_ => h_.1))) (Kd.R_base ho35) hb); have n2_ := zK (Kd.R_elder' (by (with_reducible repeat (first | apply Kd.R_alloc | apply Kd.R_drewN | apply Kd.R_drew)); exact (Kd.R_mono (Kd.R_far (p := ⟨gb299, 1, none⟩) (Kd.R_far (p := ⟨gb299, 0, none⟩) (Kd.R_types HO295.out BK299.out (by decide)) (fun _ hk => hk.2) (.int .i64 t296)) (fun _ hk => hk.2) (.int .i64 t297)) (fun _ h_ => h_.1))) (Kd.R_base ho35) hb); have n3_ := zK (Kd.R_lower (Kd.R_new' (Kd.R_new' (Kd.R_new' ho35 (Kd.R_lt (by (with_reducible repeat (first | apply Kd.R_alloc | apply Kd.R_drewN | apply Kd.R_drew)); exact (Kd.R_mono (Kd.R_far (p := ⟨gb299, 1, none⟩) (Kd.R_far (p := ⟨gb299, 0, none⟩) (Kd.R_types HO_6.out BK299.out (by decide)) (fun _ hk => hk.2) (.int .i64 t296)) (fun _ hk => hk.2) (.int .i64 t297)) (fun _ h_ => h_.1))))) (Kd.R_lt (by (with_reducible repeat (first | apply Kd.R_alloc | apply Kd.R_drewN | apply Kd.R_drew)); exact (Kd.R_mono (Kd.R_far (p := ⟨gb299, 1, none⟩) (Kd.R_far (p := ⟨gb299, 0, none⟩) (Kd.R_types HO_7.out BK299.out (by decide)) (fun _ hk => hk.2) (.int .i64 t296)) (fun _ hk => hk.2) (.int .i64 t297)) (fun _ h_ => h_.1))))) (Kd.R_lt (by (with_reducible repeat (first | apply Kd.R_alloc | apply Kd.R_drewN | apply Kd.R_drew)); exact (Kd.R_mono (Kd.R_far (p := ⟨gb299, 1, none⟩) (Kd.R_far (p := ⟨gb299, 0, none⟩) (Kd.R_types HO295.out BK299.out (by decide)) (fun _ hk => hk.2) (.int .i64 t296)) (fun _ hk => hk.2) (.int .i64 t297)) (fun _ h_ => h_.1))))) (zz zB)); have n4_ := zK (zg (g := gb299) (o := .cells #[.int .i64 t296, .int .i64 t297] 45 (0, 0)) (by (with_reducible repeat (first | refine zn ?_ _ | refine zd ?_ | refine za ?_ _)); refine blk_put (cs := #[.int .i64 t296, .int .i64 0]) ?_ 1 _ rfl; (with_reducible repeat (first | refine zn ?_ _ | refine zd ?_ | refine za ?_ _)); refine blk_put (cs := #[.int .i64 0, .int .i64 0]) ?_ 0 _ rfl; (with_reducible repeat (first | refine zn ?_ _ | refine zd ?_ | refine za ?_ _)); exact BK299.out) hb); have n5_ := zK (zp zB hb); clear HO_6; clear HO_7; clear HO295; clear BK299; clear HB; have HO_6 := n0_; have HO_7 := n1_; have HO295 := n2_; have HO302 := n3_; have BK299 := n4_; have HB := n5_; clear n0_ n1_ n2_ n3_ n4_ n5_; clear hb ho35; obtain ⟨Ao37, co37, eo37⟩ := Kd.R_slice HO_7.out; subst eo37) | ((with_reducible refine gate_builtin (b := .append) (xs := #[.tmp 64, .tmp 65]) rfl ?_); (try (refine gate_guard (by rfl) ?_; dsimp only)); at_builtin; refine Kd.R_append_rows (Kd.int .i64) (w0 := w) w.heap.size rfl (.tmp 64) (.tmp 65) 22 3 (.int .i64 0) 8 rfl Try.underlying22 info3 rfl (by decide) (by omega) v301 y300 x7_2 _ _ _ (fun k_ => some k_ ≠ (.slice Ao29 x6_2.length co29 : Value).ownBlock ∧ some k_ ≠ (.slice Ao37 x7_2.length co37 : Value).ownBlock ∧ some k_ ≠ (.slice Ao30 y293.length co30 : Value).ownBlock) (fun _ => False) rfl rfl ?aO ?aR (fun _ _ h => h) (fun _ h => h.elim) ?aF ?aB ?aS ?aL ?_; (case aR => repeat (first | exact (Kd.R_reads' HO_7.out).2.2 | (with_reducible refine Kd.C_alloc ?_ _) | (with_reducible refine Kd.C_drewN ?_ _) | (with_reducible refine Kd.C_drew ?_))); (case aB => exact zB); (case aF => exact (fun k_ hk => ⟨Kd.fresh' (Kd.R_lt (by (with_reducible repeat (first | apply Kd.R_alloc | apply Kd.R_drewN | apply Kd.R_drew)); exact HO_6.out)) k_ hk, Kd.fresh' (Kd.R_lt (by (with_reducible repeat (first | apply Kd.R_alloc | apply Kd.R_drewN | apply Kd.R_drew)); exact HO_7.out)) k_ hk, Kd.fresh' (Kd.R_lt (by (with_reducible repeat (first | apply Kd.R_alloc | apply Kd.R_drewN | apply Kd.R_drew)); exact HO295.out)) k_ hk⟩)); (case aO => exact (by (with_reducible repeat (first | apply Kd.R_alloc | apply Kd.R_drewN | apply Kd.R_drew)); exact Kd.R_mono HO302.out (fun _ hk => ⟨hk.1.1.2, ⟨hk.1.2, hk.2⟩⟩))); (case aS => exact (zz zB)); (case aL => have := LMc22.out; omega); intro v304 w36 ho hb hg hat; rw [← Ny303.out] at ho; have n0_ := zK (Kd.R_after (ok := (fun k_ => some k_ ≠ (.slice Ao37 x7_2.length co37 : Value).ownBlock ∧ some k_ ≠ (.slice Ao30 y293.length co30 : Value).ownBlock)) (by (with_reducible repeat (first | apply Kd.R_alloc | apply Kd.R_drewN | apply Kd.R_drew)); exact HO_6.out) hg hat); have n1_ := zK (Kd.R_after (ok := (fun k_ => some k_ ≠ (.slice Ao29 x6_2.length co29 : Value).ownBlock ∧ some k_ ≠ (.slice Ao30 y293.length co30 : Value).ownBlock)) (by (with_reducible repeat (first | apply Kd.R_alloc | apply Kd.R_drewN | apply Kd.R_drew)); exact HO_7.out) hg hat); have n2_ := zK (Kd.R_after (ok := (fun k_ => some k_ ≠ (.slice Ao29 x6_2.length co29 : Value).ownBlock ∧ some k_ ≠ (.slice Ao37 x7_2.length co37 : Value).ownBlock)) (by (with_reducible repeat (first | apply Kd.R_alloc | apply Kd.R_drewN | apply Kd.R_drew)); exact HO295.out) hg hat); have n3_ := zK (blk_grown (g := gb299) (o := .cells #[.int .i64 t296, .int .i64 t297] 45 (0, 0)) (by (with_reducible repeat (first | refine zn ?_ _ | refine zd ?_ | refine za ?_ _)); exact BK299.out) hg (Kd.R_ne HO302.out BK299.out (by decide))); have n4_ := zK (hb); have n5_ := zK (ho); clear HO_6; clear HO_7; clear HO295; clear BK299; clear HB; clear HO302; have HO_6 := n0_; have HO_7 := n1_; have HO295 := n2_; have BK299 := n3_; have HB := n4_; have HO305 := n5_; clear n0_ n1_ n2_ n3_ n4_ n5_; clear ho hb hg hat; obtain ⟨Ao38, co38, eo38⟩ := Kd.R_slice HO305.out; subst eo38) | ((with_reducible refine gate_callee (f := 16) rfl ?_); refine goesL_ (some 67) rfl rfl Try.func16 (by kernel_rfl) rfl #[.slice Ao38 y303.length co38] rfl zL ?_; (with_reducible refine (impl_Calibrate.calls k2 _ _ y303 t306 t307 t308 _ ?side1 ?side2 A23.out).mono ?_); (case side1 => repeat (first | exact (Kd.R_reads' HO305.out).2.2 | (with_reducible refine Kd.C_alloc ?_ _) | (with_reducible refine Kd.C_drewN ?_ _) | (with_reducible refine Kd.C_drew ?_))); (case side2 => exact (Kd.R_reads' HO305.out).2.1); rintro e w39 ⟨rfl, hb⟩; refine ⟨_, rfl, ?_⟩; have n0_ := zK (Kd.R_below (by (with_reducible repeat (first | apply Kd.R_alloc | apply Kd.R_drewN | apply Kd.R_drew)); exact HO_6.out) hb); have n1_ := zK (Kd.R_below (by (with_reducible repeat (first | apply Kd.R_alloc | apply Kd.R_drewN | apply Kd.R_drew)); exact HO_7.out) hb); have n2_ := zK (Kd.R_below (by (with_reducible repeat (first | apply Kd.R_alloc | apply Kd.R_drewN | apply Kd.R_drew)); exact HO295.out) hb); have n3_ := zK (Kd.R_below (by (with_reducible repeat (first | apply Kd.R_alloc | apply Kd.R_drewN | apply Kd.R_drew)); exact HO305.out) hb); have n4_ := zK (zg (g := gb299) (o := .cells #[.int .i64 t296, .int .i64 t297] 45 (0, 0)) (by (with_reducible repeat (first | refine zn ?_ _ | refine zd ?_ | refine za ?_ _)); exact BK299.out) hb); have n5_ := zK (zp zB hb); clear HO_6; clear HO_7; clear HO295; clear HO305; clear BK299; clear HB; have HO_6 := n0_; have HO_7 := n1_; have HO295 := n2_; have HO305 := n3_; have BK299 := n4_; have HB := n5_; clear n0_ n1_ n2_ n3_ n4_ n5_; (try clear hb); (try clear hb2); (try clear hk); (try clear hi)) | ((with_reducible refine gate_dst (N := 11) rfl ?_); (try (refine gate_guard (by rfl) ?_; dsimp only)); refine box_event ?hg (N := 11) ?hd (cs := #[.int .i64 0, .int .i64 0]) (t := 45) ?hr ?_; (case hd => rfl); (case hg => rfl); (case hr => first | (go_simp; done) | (go_simp; rfl)); intro gb309 hg w40 hbox hb; have n0_ := zK (Kd.R_below (by (with_reducible repeat (first | apply Kd.R_alloc | apply Kd.R_drewN | apply Kd.R_drew)); exact HO_6.out) hb); have n1_ := zK (Kd.R_below (by (with_reducible repeat (first | apply Kd.R_alloc | apply Kd.R_drewN | apply Kd.R_drew)); exact HO_7.out) hb); have n2_ := zK (Kd.R_below (by (with_reducible repeat (first | apply Kd.R_alloc | apply Kd.R_drewN | apply Kd.R_drew)); exact HO295.out) hb); have n3_ := zK (Kd.R_below (by (with_reducible repeat (first | apply Kd.R_alloc | apply Kd.R_drewN | apply Kd.R_drew)); exact HO305.out) hb); have n4_ := zK (zg (g := gb299) (o := .cells #[.int .i64 t296, .int .i64 t297] 45 (0, 0)) (by (with_reducible repeat (first | refine zn ?_ _ | refine zd ?_ | refine za ?_ _)); exact BK299.out) hb); have n5_ := zK (zp zB hb); have n6_ := zK (hbox); have n7_ := zK ((by rw [hg]; exact (zz zB) : w.heap.size ≤ gb309)); have n8_ := zK ((by rw [hg]; exact (zz zB) : w.heap.size ≤ gb309)); have n9_ := zK ((by rw [hg]; exact Nat.ne_of_lt (blk_lt (g := gb299) (o := .cells #[.int .i64 t296, .int .i64 t297] 45 (0, 0)) (by (with_reducible repeat (first | refine zn ?_ _ | refine zd ?_ | refine za ?_ _)); exact BK299.out)) : gb299 ≠ gb309)); have n10_ := zK ((by rw [hg]; exact Nat.ne_of_gt (blk_lt (g := gb299) (o := .cells #[.int .i64 t296, .int .i64 t297] 45 (0, 0)) (by (with_reducible repeat (first | refine zn ?_ _ | refine zd ?_ | refine za ?_ _)); exact BK299.out)) : gb309 ≠ gb299)); clear HO_6; clear HO_7; clear HO295; clear HO305; clear BK299; clear HB; have HO_6 := n0_; have HO_7 := n1_; have HO295 := n2_; have HO305 := n3_; have BK299 := n4_; have HB := n5_; have BK309 := n6_; have GW309 := n7_; have GE309 := n8_; have NB299_309 := n9_; have NB309_299 := n10_; clear n0_ n1_ n2_ n3_ n4_ n5_ n6_ n7_ n8_ n9_ n10_; clear hb hbox hg; have hnb41 := NB309_299.out; have hnc41 := NB299_309.out; have hcz42_0 : w40.cell? ⟨gb309, 0, none⟩ = some (.int .i64 0) := (zc BK309.out 0).trans rfl; have hcz42_1 : w40.cell? ⟨gb309, 1, none⟩ = some (.int .i64 0) := (zc BK309.out 1).trans rfl; have hfz42_0 := zf BK309.out 0; have hfz42_1 := zf BK309.out 1) | ((with_reducible refine gate_callee (f := 15) rfl ?_); refine goesL_ (some 71) rfl rfl Try.func15 (by kernel_rfl) rfl #[.slice A1 l1.length c1, .int .i64 0] rfl zL ?_; (with_reducible refine (laws_at.calls _ _ l1 0 t310 _ ?side1 ?side2 A24.out).mono ?_); (case side1 => exact Kd.C_below HR1.out zB); (case side2 => exact HC1.out); rintro e w' ⟨rfl, ⟨nd, rfl⟩⟩; refine ⟨_, rfl, ?_⟩) | ((with_reducible refine gate_dst (N := 13) rfl ?_); (try (refine gate_guard (by rfl) ?_; dsimp only)); refine box_event ?hg (N := 13) ?hd (cs := #[.int .i64 0, .int .i64 0]) (t := 45) ?hr ?_; (case hd => rfl); (case hg => rfl); (case hr => first | (go_simp; done) | (go_simp; rfl)); intro gb311 hg w43 hbox hb; have n0_ := zK (Kd.R_below (by (with_reducible repeat (first | apply Kd.R_alloc | apply Kd.R_drewN | apply Kd.R_drew)); exact (Kd.R_mono (Kd.R_far (p := ⟨gb309, 1, none⟩) (Kd.R_far (p := ⟨gb309, 0, none⟩) (Kd.R_types HO_6.out BK309.out (by decide)) (fun _ hk => hk.2) (.int .i64 t306)) (fun _ hk => hk.2) (.int .i64 t307)) (fun _ h_ => h_.1))) hb); have n1_ := zK (Kd.R_below (by (with_reducible repeat (first | apply Kd.R_alloc | apply Kd.R_drewN | apply Kd.R_drew)); exact (Kd.R_mono (Kd.R_far (p := ⟨gb309, 1, none⟩) (Kd.R_far (p := ⟨gb309, 0, none⟩) (Kd.R_types HO_7.out BK309.out (by decide)) (fun _ hk => hk.2) (.int .i64 t306)) (fun _ hk => hk.2) (.int .i64 t307)) (fun _ h_ => h_.1))) hb); have n2_ := zK (Kd.R_below (by (with_reducible repeat (first | apply Kd.R_alloc | apply Kd.R_drewN | apply Kd.R_drew)); exact (Kd.R_mono (Kd.R_far (p := ⟨gb309, 1, none⟩) (Kd.R_far (p := ⟨gb309, 0, none⟩) (Kd.R_types HO295.out BK309.out (by decide)) (fun _ hk => hk.2) (.int .i64 t306)) (fun _ hk => hk.2) (.int .i64 t307)) (fun _ h_ => h_.1))) hb); have n3_ := zK (Kd.R_below (by (with_reducible repeat (first | apply Kd.R_alloc | apply Kd.R_drewN | apply Kd.R_drew)); exact (Kd.R_mono (Kd.R_far (p := ⟨gb309, 1, none⟩) (Kd.R_far (p := ⟨gb309, 0, none⟩) (Kd.R_types HO305.out BK309.out (by decide)) (fun _ hk => hk.2) (.int .i64 t306)) (fun _ hk => hk.2) (.int .i64 t307)) (fun _ h_ => h_.1))) hb); have n4_ := zK (zg (g := gb299) (o := .cells #[.int .i64 t296, .int .i64 t297] 45 (0, 0)) (by (with_reducible repeat (first | refine zn ?_ _ | refine zd ?_ | refine za ?_ _)); refine blk_far ?_ NB299_309.out _; (with_reducible repeat (first | refine zn ?_ _ | refine zd ?_ | refine za ?_ _)); refine blk_far ?_ NB299_309.out _; (with_reducible repeat (first | refine zn ?_ _ | refine zd ?_ | refine za ?_ _)); exact BK299.out) hb); have n5_ := zK (zg (g := gb309) (o := .cells #[.int .i64 t306, .int .i64 t307] 45 (0, 0)) (by (with_reducible repeat (first | refine zn ?_ _ | refine zd ?_ | refine za ?_ _)); refine blk_put (cs := #[.int .i64 t306, .int .i64 0]) ?_ 1 _ rfl; (with_reducible repeat (first | refine zn ?_ _ | refine zd ?_ | refine za ?_ _)); refine blk_put (cs := #[.int .i64 0, .int .i64 0]) ?_ 0 _ rfl; (with_reducible repeat (first | refine zn ?_ _ | refine zd ?_ | refine za ?_ _)); exact BK309.out) hb); have n6_ := zK (zp zB hb); have n7_ := zK (hbox); have n8_ := zK ((by rw [hg]; exact (zz zB) : w.heap.size ≤ gb311)); have n9_ := zK ((by rw [hg]; exact (zz zB) : w.heap.size ≤ gb311)); have n10_ := zK ((by rw [hg]; exact Nat.ne_of_lt (blk_lt (g := gb299) (o := .cells #[.int .i64 t296, .int .i64 t297] 45 (0, 0)) (by (with_reducible repeat (first | refine zn ?_ _ | refine zd ?_ | refine za ?_ _)); refine blk_far ?_ NB299_309.out _; (with_reducible repeat (first | refine zn ?_ _ | refine zd ?_ | refine za ?_ _)); refine blk_far ?_ NB299_309.out _; (with_reducible repeat (first | refine zn ?_ _ | refine zd ?_ | refine za ?_ _)); exact BK299.out)) : gb299 ≠ gb311)); have n11_ := zK ((by rw [hg]; exact Nat.ne_of_gt (blk_lt (g := gb299) (o := .cells #[.int .i64 t296, .int .i64 t297] 45 (0, 0)) (by (with_reducible repeat (first | refine zn ?_ _ | refine zd ?_ | refine za ?_ _)); refine blk_far ?_ NB299_309.out _; (with_reducible repeat (first | refine zn ?_ _ | refine zd ?_ | refine za ?_ _)); refine blk_far ?_ NB299_309.out _; (with_reducible repeat (first | refine zn ?_ _ | refine zd ?_ | refine za ?_ _)); exact BK299.out)) : gb311 ≠ gb299)); have n12_ := zK ((by rw [hg]; exact Nat.ne_of_lt (blk_lt (g := gb309) (o := .cells #[.int .i64 t306, .int .i64 t307] 45 (0, 0)) (by (with_reducible repeat (first | refine zn ?_ _ | refine zd ?_ | refine za ?_ _)); refine blk_put (cs := #[.int .i64 t306, .int .i64 0]) ?_ 1 _ rfl; (with_reducible repeat (first | refine zn ?_ _ | refine zd ?_ | refine za ?_ _)); refine blk_put (cs := #[.int .i64 0, .int .i64 0]) ?_ 0 _ rfl; (with_reducible repeat (first | refine zn ?_ _ | refine zd ?_ | refine za ?_ _)); exact BK309.out)) : gb309 ≠ gb311)); have n13_ := zK ((by rw [hg]; exact Nat.ne_of_gt (blk_lt (g := gb309) (o := .cells #[.int .i64 t306, .int .i64 t307] 45 (0, 0)) (by (with_reducible repeat (first | refine zn ?_ _ | refine zd ?_ | refine za ?_ _)); refine blk_put (cs := #[.int .i64 t306, .int .i64 0]) ?_ 1 _ rfl; (with_reducible repeat (first | refine zn ?_ _ | refine zd ?_ | refine za ?_ _)); refine blk_put (cs := #[.int .i64 0, .int .i64 0]) ?_ 0 _ rfl; (with_reducible repeat (first | refine zn ?_ _ | refine zd ?_ | refine za ?_ _)); exact BK309.out)) : gb311 ≠ gb309)); clear HO_6; clear HO_7; clear HO295; clear HO305; clear BK299; clear BK309; clear HB; have HO_6 := n0_; have HO_7 := n1_; have HO295 := n2_; have HO305 := n3_; have BK299 := n4_; have BK309 := n5_; have HB := n6_; have BK311 := n7_; have GW311 := n8_; have GE311 := n9_; have NB299_311 := n10_; have NB311_299 := n11_; have NB309_311 := n12_; have NB311_309 := n13_; clear n0_ n1_ n2_ n3_ n4_ n5_ n6_ n7_ n8_ n9_ n10_ n11_ n12_ n13_; clear hb hbox hg; have hnb44 := NB311_299.out; have hnc44 := NB299_311.out; have hnb45 := NB311_309.out; have hnc45 := NB309_311.out; have hcz46_0 : w43.cell? ⟨gb311, 0, none⟩ = some (.int .i64 0) := (zc BK311.out 0).trans rfl; have hcz46_1 : w43.cell? ⟨gb311, 1, none⟩ = some (.int .i64 0) := (zc BK311.out 1).trans rfl; have hfz46_0 := zf BK311.out 0; have hfz46_1 := zf BK311.out 1))
    (try simp only [Act.put, List.setIfInBounds_toArray, List.set_cons_zero, List.set_cons_succ])
    go_cut [80] (fun v80 wc => ∃ (kq : Nat) (x80_24 : Bool), v80 = .bool x80_24 ∧ Aside0 (laws_FnMatBound.j2 kq (wrap64 (1 + (Int.tmod t275 8))) x6_2 x7_2 x80_24 t296 t297 t306 t307 (wrap64 (3000 + (wrap64 (t310 * 20)))) 128 = some r) ∧ Aside0 (kq ≤ k2) ∧ Aside0 (Kd.R (Kd.int .i64) 3 wc w.heap.size (fun k_ => some k_ ≠ ((.slice Ao37 x7_2.length co37) : Value).ownBlock) (.slice Ao29 x6_2.length co29) x6_2) ∧ Aside0 (Kd.R (Kd.int .i64) 3 wc w.heap.size (fun k_ => some k_ ≠ ((.slice Ao29 x6_2.length co29) : Value).ownBlock) (.slice Ao37 x7_2.length co37) x7_2) ∧ Aside0 (wc.heap[gb299]? = some (.cells #[.int .i64 t296, .int .i64 t297] 45 (0, 0))) ∧ Aside0 (wc.heap[gb309]? = some (.cells #[.int .i64 t306, .int .i64 t307] 45 (0, 0))) ∧ Aside0 (wc.heap[gb311]? = some (.cells #[.int .i64 (wrap64 (3000 + (wrap64 (t310 * 20)))), .int .i64 128] 45 (0, 0))) ∧ Aside0 (Below w.heap.size w wc))
    case first =>
     have H := HC25.out
     clear HC25
     by_cases c47 : t298 = true
     · subst c47
       have H1 : (laws_FnMatBound.j2 k2 (wrap64 (1 + (Int.tmod t275 8))) x6_2 x7_2 (!t308) t296 t297 t306 t307 (wrap64 (3000 + (wrap64 (t310 * 20)))) 128) = some r := by rw [if_pos rfl] at H; exact H
       clear H
       have H := H1
       clear H1
       have H' := zK H
       clear H
       go_wp2
       go_meet
       case rel => exact ⟨_, (!t308), zR, H', ⟨by have := HJ2.out; have := HK2.out; first | omega | exact Nat.le_refl _⟩, ⟨by (with_reducible repeat (first | apply Kd.R_alloc | apply Kd.R_drewN | apply Kd.R_drew)); exact Kd.R_mono (Kd.R_far (p := ⟨gb311, 1, none⟩) (Kd.R_far (p := ⟨gb311, 0, none⟩) (Kd.R_types HO_6.out BK311.out (by decide)) (fun _ hk => hk.2) (.int .i64 (wrap64 (3000 + (wrap64 (t310 * 20)))))) (fun _ hk => hk.2) (.int .i64 128)) (fun _ hk => hk.1.1.1)⟩, ⟨by (with_reducible repeat (first | apply Kd.R_alloc | apply Kd.R_drewN | apply Kd.R_drew)); exact Kd.R_mono (Kd.R_far (p := ⟨gb311, 1, none⟩) (Kd.R_far (p := ⟨gb311, 0, none⟩) (Kd.R_types HO_7.out BK311.out (by decide)) (fun _ hk => hk.2) (.int .i64 (wrap64 (3000 + (wrap64 (t310 * 20)))))) (fun _ hk => hk.2) (.int .i64 128)) (fun _ hk => hk.1.1.1)⟩, ⟨by (with_reducible repeat (first | refine zn ?_ _ | refine zd ?_ | refine za ?_ _)); refine blk_far ?_ NB299_311.out _; (with_reducible repeat (first | refine zn ?_ _ | refine zd ?_ | refine za ?_ _)); refine blk_far ?_ NB299_311.out _; (with_reducible repeat (first | refine zn ?_ _ | refine zd ?_ | refine za ?_ _)); exact BK299.out⟩, ⟨by (with_reducible repeat (first | refine zn ?_ _ | refine zd ?_ | refine za ?_ _)); refine blk_far ?_ NB309_311.out _; (with_reducible repeat (first | refine zn ?_ _ | refine zd ?_ | refine za ?_ _)); refine blk_far ?_ NB309_311.out _; (with_reducible repeat (first | refine zn ?_ _ | refine zd ?_ | refine za ?_ _)); exact BK309.out⟩, ⟨by (with_reducible repeat (first | refine zn ?_ _ | refine zd ?_ | refine za ?_ _)); refine blk_put (cs := #[.int .i64 (wrap64 (3000 + (wrap64 (t310 * 20)))), .int .i64 0]) ?_ 1 _ rfl; (with_reducible repeat (first | refine zn ?_ _ | refine zd ?_ | refine za ?_ _)); refine blk_put (cs := #[.int .i64 0, .int .i64 0]) ?_ 0 _ rfl; (with_reducible repeat (first | refine zn ?_ _ | refine zd ?_ | refine za ?_ _)); exact BK311.out⟩, ⟨zB⟩⟩
     replace c47 := Bool.eq_false_iff.mpr c47
     subst c47
     have H1 : (laws_FnMatBound.j2 k2 (wrap64 (1 + (Int.tmod t275 8))) x6_2 x7_2 true t296 t297 t306 t307 (wrap64 (3000 + (wrap64 (t310 * 20)))) 128) = some r := by rw [if_neg (show ¬ (false = true) by decide)] at H; exact H
     clear H
     have H := H1
     clear H1
     have H' := zK H
     clear H
     go_wp2
     go_meet
     case rel => exact ⟨_, (true), zR, H', ⟨by have := HJ2.out; have := HK2.out; first | omega | exact Nat.le_refl _⟩, ⟨by (with_reducible repeat (first | apply Kd.R_alloc | apply Kd.R_drewN | apply Kd.R_drew)); exact Kd.R_mono (Kd.R_far (p := ⟨gb311, 1, none⟩) (Kd.R_far (p := ⟨gb311, 0, none⟩) (Kd.R_types HO_6.out BK311.out (by decide)) (fun _ hk => hk.2) (.int .i64 (wrap64 (3000 + (wrap64 (t310 * 20)))))) (fun _ hk => hk.2) (.int .i64 128)) (fun _ hk => hk.1.1.1)⟩, ⟨by (with_reducible repeat (first | apply Kd.R_alloc | apply Kd.R_drewN | apply Kd.R_drew)); exact Kd.R_mono (Kd.R_far (p := ⟨gb311, 1, none⟩) (Kd.R_far (p := ⟨gb311, 0, none⟩) (Kd.R_types HO_7.out BK311.out (by decide)) (fun _ hk => hk.2) (.int .i64 (wrap64 (3000 + (wrap64 (t310 * 20)))))) (fun _ hk => hk.2) (.int .i64 128)) (fun _ hk => hk.1.1.1)⟩, ⟨by (with_reducible repeat (first | refine zn ?_ _ | refine zd ?_ | refine za ?_ _)); refine blk_far ?_ NB299_311.out _; (with_reducible repeat (first | refine zn ?_ _ | refine zd ?_ | refine za ?_ _)); refine blk_far ?_ NB299_311.out _; (with_reducible repeat (first | refine zn ?_ _ | refine zd ?_ | refine za ?_ _)); exact BK299.out⟩, ⟨by (with_reducible repeat (first | refine zn ?_ _ | refine zd ?_ | refine za ?_ _)); refine blk_far ?_ NB309_311.out _; (with_reducible repeat (first | refine zn ?_ _ | refine zd ?_ | refine za ?_ _)); refine blk_far ?_ NB309_311.out _; (with_reducible repeat (first | refine zn ?_ _ | refine zd ?_ | refine za ?_ _)); exact BK309.out⟩, ⟨by (with_reducible repeat (first | refine zn ?_ _ | refine zd ?_ | refine za ?_ _)); refine blk_put (cs := #[.int .i64 (wrap64 (3000 + (wrap64 (t310 * 20)))), .int .i64 0]) ?_ 1 _ rfl; (with_reducible repeat (first | refine zn ?_ _ | refine zd ?_ | refine za ?_ _)); refine blk_put (cs := #[.int .i64 0, .int .i64 0]) ?_ 0 _ rfl; (with_reducible repeat (first | refine zn ?_ _ | refine zd ?_ | refine za ?_ _)); exact BK311.out⟩, ⟨zB⟩⟩
    case rest =>
     clear HC25
     try clear c1
     try clear c2
     try clear p2
     try clear c4
     try clear c5
     try clear p6
     try clear c7
     try clear c13
     try clear c13b0
     try clear c14
     try clear c15
     try clear c16
     try clear c17
     try clear c20
     try clear c22
     try clear c41
     try clear c44
     try clear c45
     try clear c47
     try clear hcz33_0
     try clear hcz33_1
     try clear hcz42_0
     try clear hcz42_1
     try clear hcz46_0
     try clear hcz46_1
     try clear hfz33_0
     try clear hfz33_1
     try clear hfz42_0
     try clear hfz42_1
     try clear hfz46_0
     try clear hfz46_1
     try clear p2
     try clear p6
     obtain ⟨kq, x80_24, rfl, HA, HJ24, HO_6, HO_7, BK299, BK309, BK311, HB⟩ := hcut
     cases kq with
     | zero => exact absurd HA.out (by simp [laws_FnMatBound.j2])
     | succ kj24 =>
      have H := HA.out
      clear HA
      simp only [laws_FnMatBound.j2] at H
      by_cases c48 : x80_24 = true
      · subst c48
        have H1 : (some false) = some r := by rw [if_pos rfl] at H; exact H
        clear H
        have H := H1
        clear H1
        obtain rfl := Option.some.inj H
        go_wp2
        go_ret
        exact ⟨by first | rfl | (simp [errW_none, errW_some] <;> rfl) | (simp [*, errW_none, errW_some] <;> rfl), zB⟩
      replace c48 := Bool.eq_false_iff.mpr c48
      subst c48
      have H1 : ((laws_quantised.f kj24 t296 t297 x6_2).bind fun bt312 => ((laws_quantised.f kj24 t306 t307 x7_2).bind fun bt316 => (if bt312.2 = true then (laws_FnMatBound.j3 kj24 (wrap64 (1 + (Int.tmod t275 8))) x6_2 x7_2 bt312.1 bt316.1 (!bt316.2) t296 t297 t306 t307 (wrap64 (3000 + (wrap64 (t310 * 20)))) 128) else (laws_FnMatBound.j3 kj24 (wrap64 (1 + (Int.tmod t275 8))) x6_2 x7_2 bt312.1 bt316.1 true t296 t297 t306 t307 (wrap64 (3000 + (wrap64 (t310 * 20)))) 128)))) = some r := by rw [if_neg (show ¬ (false = true) by decide)] at H; exact H
      clear H
      have H := H1
      clear H1
      replace H := Option.bind_eq_some_iff.mp H
      obtain ⟨⟨t312, t315⟩, A490, H⟩ := H
      replace H : ((laws_quantised.f kj24 t306 t307 x7_2).bind fun bt316 => (if t315 = true then (laws_FnMatBound.j3 kj24 (wrap64 (1 + (Int.tmod t275 8))) x6_2 x7_2 t312 bt316.1 (!bt316.2) t296 t297 t306 t307 (wrap64 (3000 + (wrap64 (t310 * 20)))) 128) else (laws_FnMatBound.j3 kj24 (wrap64 (1 + (Int.tmod t275 8))) x6_2 x7_2 t312 bt316.1 true t296 t297 t306 t307 (wrap64 (3000 + (wrap64 (t310 * 20)))) 128))) = some r := H
      have A49 := zK A490
      clear A490
      replace H := Option.bind_eq_some_iff.mp H
      obtain ⟨⟨t316, t319⟩, A500, H⟩ := H
      replace H : (if t315 = true then (laws_FnMatBound.j3 kj24 (wrap64 (1 + (Int.tmod t275 8))) x6_2 x7_2 t312 t316 (!t319) t296 t297 t306 t307 (wrap64 (3000 + (wrap64 (t310 * 20)))) 128) else (laws_FnMatBound.j3 kj24 (wrap64 (1 + (Int.tmod t275 8))) x6_2 x7_2 t312 t316 true t296 t297 t306 t307 (wrap64 (3000 + (wrap64 (t310 * 20)))) 128)) = some r := H
      have A50 := zK A500
      clear A500
      have HC51 := zK H
      clear H
      have hnb52 := NB299_309.out
      have hnc52 := NB309_299.out
      have hnb53 := NB299_311.out
      have hnc53 := NB311_299.out
      have hcz54_0 : wc.cell? ⟨gb299, 0, none⟩ = some (.int .i64 t296) := (zc BK299.out 0).trans rfl
      have hcz54_1 : wc.cell? ⟨gb299, 1, none⟩ = some (.int .i64 t297) := (zc BK299.out 1).trans rfl
      have hfz54_0 := zf BK299.out 0
      have hfz54_1 := zf BK299.out 1
      go_upto_region 18 with (first | ((with_reducible refine gate_callee (f := 17) rfl ?_); refine goesL_ (some 84) rfl rfl Try.func17 (by kernel_rfl) rfl #[.agg #[.int .i64 t296, .int .i64 t297], .slice Ao29 x6_2.length co29] rfl zL ?_; (with_reducible refine (laws_quantised.calls kj24 t296 t297 _ _ x6_2 t312 t315 _ ?side1 ?side2 A49.out).mono ?_); (case side1 => repeat (first | exact (Kd.R_reads' HO_6.out).2.2 | (with_reducible refine Kd.C_alloc ?_ _) | (with_reducible refine Kd.C_drewN ?_ _) | (with_reducible refine Kd.C_drew ?_))); (case side2 => exact (Kd.R_reads' HO_6.out).2.1); rintro e w55 ⟨v313, rfl, ho0, hb⟩; refine ⟨_, rfl, ?_⟩; have n0_ := zK (Kd.R_elder' (by (with_reducible repeat (first | apply Kd.R_alloc | apply Kd.R_drewN | apply Kd.R_drew)); exact HO_6.out) (Kd.R_base ho0) hb); have n1_ := zK (Kd.R_elder' (by (with_reducible repeat (first | apply Kd.R_alloc | apply Kd.R_drewN | apply Kd.R_drew)); exact HO_7.out) (Kd.R_base ho0) hb); have n2_ := zK (Kd.R_lower (Kd.R_new' (Kd.R_new' ho0 (Kd.R_lt (by (with_reducible repeat (first | apply Kd.R_alloc | apply Kd.R_drewN | apply Kd.R_drew)); exact HO_6.out))) (Kd.R_lt (by (with_reducible repeat (first | apply Kd.R_alloc | apply Kd.R_drewN | apply Kd.R_drew)); exact HO_7.out))) (zz zB)); have n3_ := zK (zg (g := gb299) (o := .cells #[.int .i64 t296, .int .i64 t297] 45 (0, 0)) (by (with_reducible repeat (first | refine zn ?_ _ | refine zd ?_ | refine za ?_ _)); exact BK299.out) hb); have n4_ := zK (zg (g := gb309) (o := .cells #[.int .i64 t306, .int .i64 t307] 45 (0, 0)) (by (with_reducible repeat (first | refine zn ?_ _ | refine zd ?_ | refine za ?_ _)); exact BK309.out) hb); have n5_ := zK (zg (g := gb311) (o := .cells #[.int .i64 (wrap64 (3000 + (wrap64 (t310 * 20)))), .int .i64 128] 45 (0, 0)) (by (with_reducible repeat (first | refine zn ?_ _ | refine zd ?_ | refine za ?_ _)); exact BK311.out) hb); have n6_ := zK (zp zB hb); clear HO_6; clear HO_7; clear BK299; clear BK309; clear BK311; clear HB; have HO_6 := n0_; have HO_7 := n1_; have HO314 := n2_; have BK299 := n3_; have BK309 := n4_; have BK311 := n5_; have HB := n6_; clear n0_ n1_ n2_ n3_ n4_ n5_ n6_; (try clear hb); (try clear hb2); (try clear hk); (try clear hi); (try clear ho0); have hnb56 := NB309_311.out; have hnc56 := NB311_309.out; have hcz57_0 : w55.cell? ⟨gb309, 0, none⟩ = some (.int .i64 t306) := (zc BK309.out 0).trans rfl; have hcz57_1 : w55.cell? ⟨gb309, 1, none⟩ = some (.int .i64 t307) := (zc BK309.out 1).trans rfl; have hfz57_0 := zf BK309.out 0; have hfz57_1 := zf BK309.out 1) | ((with_reducible refine gate_callee (f := 17) rfl ?_); refine goesL_ (some 90) rfl rfl Try.func17 (by kernel_rfl) rfl #[.agg #[.int .i64 t306, .int .i64 t307], .slice Ao37 x7_2.length co37] rfl zL ?_; (with_reducible refine (laws_quantised.calls kj24 t306 t307 _ _ x7_2 t316 t319 _ ?side1 ?side2 A50.out).mono ?_); (case side1 => repeat (first | exact (Kd.R_reads' HO_7.out).2.2 | (with_reducible refine Kd.C_alloc ?_ _) | (with_reducible refine Kd.C_drewN ?_ _) | (with_reducible refine Kd.C_drew ?_))); (case side2 => exact (Kd.R_reads' HO_7.out).2.1); rintro e w58 ⟨v317, rfl, ho0, hb⟩; refine ⟨_, rfl, ?_⟩; have n0_ := zK (Kd.R_elder' (by (with_reducible repeat (first | apply Kd.R_alloc | apply Kd.R_drewN | apply Kd.R_drew)); exact HO_6.out) (Kd.R_base ho0) hb); have n1_ := zK (Kd.R_elder' (by (with_reducible repeat (first | apply Kd.R_alloc | apply Kd.R_drewN | apply Kd.R_drew)); exact HO_7.out) (Kd.R_base ho0) hb); have n2_ := zK (Kd.R_elder' (by (with_reducible repeat (first | apply Kd.R_alloc | apply Kd.R_drewN | apply Kd.R_drew)); exact HO314.out) (Kd.R_base ho0) hb); have n3_ := zK (Kd.R_lower (Kd.R_new' (Kd.R_new' (Kd.R_new' ho0 (Kd.R_lt (by (with_reducible repeat (first | apply Kd.R_alloc | apply Kd.R_drewN | apply Kd.R_drew)); exact HO_6.out))) (Kd.R_lt (by (with_reducible repeat (first | apply Kd.R_alloc | apply Kd.R_drewN | apply Kd.R_drew)); exact HO_7.out))) (Kd.R_lt (by (with_reducible repeat (first | apply Kd.R_alloc | apply Kd.R_drewN | apply Kd.R_drew)); exact HO314.out))) (zz zB)); have n4_ := zK (zg (g := gb299) (o := .cells #[.int .i64 t296, .int .i64 t297] 45 (0, 0)) (by (with_reducible repeat (first | refine zn ?_ _ | refine zd ?_ | refine za ?_ _)); exact BK299.out) hb); have n5_ := zK (zg (g := gb309) (o := .cells #[.int .i64 t306, .int .i64 t307] 45 (0, 0)) (by (with_reducible repeat (first | refine zn ?_ _ | refine zd ?_ | refine za ?_ _)); exact BK309.out) hb); have n6_ := zK (zg (g := gb311) (o := .cells #[.int .i64 (wrap64 (3000 + (wrap64 (t310 * 20)))), .int .i64 128] 45 (0, 0)) (by (with_reducible repeat (first | refine zn ?_ _ | refine zd ?_ | refine za ?_ _)); exact BK311.out) hb); have n7_ := zK (zp zB hb); clear HO_6; clear HO_7; clear HO314; clear BK299; clear BK309; clear BK311; clear HB; have HO_6 := n0_; have HO_7 := n1_; have HO314 := n2_; have HO318 := n3_; have BK299 := n4_; have BK309 := n5_; have BK311 := n6_; have HB := n7_; clear n0_ n1_ n2_ n3_ n4_ n5_ n6_ n7_; (try clear hb); (try clear hb2); (try clear hk); (try clear hi); (try clear ho0)))
      (try simp only [Act.put, List.setIfInBounds_toArray, List.set_cons_zero, List.set_cons_succ])
      go_cut [98] (fun v98 wc => ∃ (kq : Nat) (x98_50 : Bool), v98 = .bool x98_50 ∧ Aside0 (laws_FnMatBound.j3 kq (wrap64 (1 + (Int.tmod t275 8))) x6_2 x7_2 t312 t316 x98_50 t296 t297 t306 t307 (wrap64 (3000 + (wrap64 (t310 * 20)))) 128 = some r) ∧ Aside0 (kq ≤ kj24) ∧ Aside0 (Kd.R (Kd.int .i64) 3 wc w.heap.size (fun k_ => some k_ ≠ ((.slice Ao37 x7_2.length co37) : Value).ownBlock ∧ some k_ ≠ (v313 : Value).ownBlock ∧ some k_ ≠ (v317 : Value).ownBlock) (.slice Ao29 x6_2.length co29) x6_2) ∧ Aside0 (Kd.R (Kd.int .i64) 3 wc w.heap.size (fun k_ => some k_ ≠ ((.slice Ao29 x6_2.length co29) : Value).ownBlock ∧ some k_ ≠ (v313 : Value).ownBlock ∧ some k_ ≠ (v317 : Value).ownBlock) (.slice Ao37 x7_2.length co37) x7_2) ∧ Aside0 (Kd.R (Kd.int .i64) 3 wc w.heap.size (fun k_ => some k_ ≠ ((.slice Ao29 x6_2.length co29) : Value).ownBlock ∧ some k_ ≠ ((.slice Ao37 x7_2.length co37) : Value).ownBlock ∧ some k_ ≠ (v317 : Value).ownBlock) v313 t312) ∧ Aside0 (Kd.R (Kd.int .i64) 3 wc w.heap.size (fun k_ => some k_ ≠ ((.slice Ao29 x6_2.length co29) : Value).ownBlock ∧ some k_ ≠ ((.slice Ao37 x7_2.length co37) : Value).ownBlock ∧ some k_ ≠ (v313 : Value).ownBlock) v317 t316) ∧ Aside0 (wc.heap[gb299]? = some (.cells #[.int .i64 t296, .int .i64 t297] 45 (0, 0))) ∧ Aside0 (wc.heap[gb309]? = some (.cells #[.int .i64 t306, .int .i64 t307] 45 (0, 0))) ∧ Aside0 (wc.heap[gb311]? = some (.cells #[.int .i64 (wrap64 (3000 + (wrap64 (t310 * 20)))), .int .i64 128] 45 (0, 0))) ∧ Aside0 (Below w.heap.size w wc))
      case first =>
       have H := HC51.out
       clear HC51
       by_cases c59 : t315 = true
       · subst c59
         have H1 : (laws_FnMatBound.j3 kj24 (wrap64 (1 + (Int.tmod t275 8))) x6_2 x7_2 t312 t316 (!t319) t296 t297 t306 t307 (wrap64 (3000 + (wrap64 (t310 * 20)))) 128) = some r := by rw [if_pos rfl] at H; exact H
         clear H
         have H := H1
         clear H1
         have H' := zK H
         clear H
         go_wp2
         go_meet
         case rel => exact ⟨_, (!t319), zR, H', ⟨by have := HJ2.out; have := HK2.out; have := HJ24.out; first | omega | exact Nat.le_refl _⟩, ⟨by (with_reducible repeat (first | apply Kd.R_alloc | apply Kd.R_drewN | apply Kd.R_drew)); exact Kd.R_mono HO_6.out (fun _ hk => ⟨hk.1.1, ⟨hk.1.2, hk.2⟩⟩)⟩, ⟨by (with_reducible repeat (first | apply Kd.R_alloc | apply Kd.R_drewN | apply Kd.R_drew)); exact Kd.R_mono HO_7.out (fun _ hk => ⟨hk.1.1, ⟨hk.1.2, hk.2⟩⟩)⟩, ⟨by (with_reducible repeat (first | apply Kd.R_alloc | apply Kd.R_drewN | apply Kd.R_drew)); exact Kd.R_mono HO314.out (fun _ hk => ⟨hk.1.1.2, ⟨hk.1.2, hk.2⟩⟩)⟩, ⟨by (with_reducible repeat (first | apply Kd.R_alloc | apply Kd.R_drewN | apply Kd.R_drew)); exact Kd.R_mono HO318.out (fun _ hk => ⟨hk.1.1.2, ⟨hk.1.2, hk.2⟩⟩)⟩, ⟨by (with_reducible repeat (first | refine zn ?_ _ | refine zd ?_ | refine za ?_ _)); exact BK299.out⟩, ⟨by (with_reducible repeat (first | refine zn ?_ _ | refine zd ?_ | refine za ?_ _)); exact BK309.out⟩, ⟨by (with_reducible repeat (first | refine zn ?_ _ | refine zd ?_ | refine za ?_ _)); exact BK311.out⟩, ⟨zB⟩⟩
       replace c59 := Bool.eq_false_iff.mpr c59
       subst c59
       have H1 : (laws_FnMatBound.j3 kj24 (wrap64 (1 + (Int.tmod t275 8))) x6_2 x7_2 t312 t316 true t296 t297 t306 t307 (wrap64 (3000 + (wrap64 (t310 * 20)))) 128) = some r := by rw [if_neg (show ¬ (false = true) by decide)] at H; exact H
       clear H
       have H := H1
       clear H1
       have H' := zK H
       clear H
       go_wp2
       go_meet
       case rel => exact ⟨_, (true), zR, H', ⟨by have := HJ2.out; have := HK2.out; have := HJ24.out; first | omega | exact Nat.le_refl _⟩, ⟨by (with_reducible repeat (first | apply Kd.R_alloc | apply Kd.R_drewN | apply Kd.R_drew)); exact Kd.R_mono HO_6.out (fun _ hk => ⟨hk.1.1, ⟨hk.1.2, hk.2⟩⟩)⟩, ⟨by (with_reducible repeat (first | apply Kd.R_alloc | apply Kd.R_drewN | apply Kd.R_drew)); exact Kd.R_mono HO_7.out (fun _ hk => ⟨hk.1.1, ⟨hk.1.2, hk.2⟩⟩)⟩, ⟨by (with_reducible repeat (first | apply Kd.R_alloc | apply Kd.R_drewN | apply Kd.R_drew)); exact Kd.R_mono HO314.out (fun _ hk => ⟨hk.1.1.2, ⟨hk.1.2, hk.2⟩⟩)⟩, ⟨by (with_reducible repeat (first | apply Kd.R_alloc | apply Kd.R_drewN | apply Kd.R_drew)); exact Kd.R_mono HO318.out (fun _ hk => ⟨hk.1.1.2, ⟨hk.1.2, hk.2⟩⟩)⟩, ⟨by (with_reducible repeat (first | refine zn ?_ _ | refine zd ?_ | refine za ?_ _)); exact BK299.out⟩, ⟨by (with_reducible repeat (first | refine zn ?_ _ | refine zd ?_ | refine za ?_ _)); exact BK309.out⟩, ⟨by (with_reducible repeat (first | refine zn ?_ _ | refine zd ?_ | refine za ?_ _)); exact BK311.out⟩, ⟨zB⟩⟩
      case rest =>
       clear HC51
       try clear c1
       try clear c2
       try clear p2
       try clear c4
       try clear c5
       try clear p6
       try clear c7
       try clear c13
       try clear c13b0
       try clear c14
       try clear c15
       try clear c16
       try clear c17
       try clear c20
       try clear c22
       try clear c41
       try clear c44
       try clear c45
       try clear c47
       try clear c48
       try clear c52
       try clear c53
       try clear c56
       try clear c59
       try clear hcz33_0
       try clear hcz33_1
       try clear hcz42_0
       try clear hcz42_1
       try clear hcz46_0
       try clear hcz46_1
       try clear hcz54_0
       try clear hcz54_1
       try clear hcz57_0
       try clear hcz57_1
       try clear hfz33_0
       try clear hfz33_1
       try clear hfz42_0
       try clear hfz42_1
       try clear hfz46_0
       try clear hfz46_1
       try clear hfz54_0
       try clear hfz54_1
       try clear hfz57_0
       try clear hfz57_1
       try clear p2
       try clear p6
       obtain ⟨kq, x98_50, rfl, HA, HJ50, HO_6, HO_7, HO_14, HO_16, BK299, BK309, BK311, HB⟩ := hcut
       cases kq with
       | zero => exact absurd HA.out (by simp [laws_FnMatBound.j3])
       | succ kj50 =>
        have H := HA.out
        clear HA
        simp only [laws_FnMatBound.j3] at H
        by_cases c60 : x98_50 = true
        · subst c60
          have H1 : (some true) = some r := by rw [if_pos rfl] at H; exact H
          clear H
          have H := H1
          clear H1
          obtain rfl := Option.some.inj H
          go_wp2
          go_ret
          exact ⟨by first | rfl | (simp [errW_none, errW_some] <;> rfl) | (simp [*, errW_none, errW_some] <;> rfl), zB⟩
        replace c60 := Bool.eq_false_iff.mpr c60
        subst c60
        have H1 : ((impl_MatBytes.f kj50 t312 (wrap64 (1 + (Int.tmod t275 8))) t296 t297 t316 1 t306 t307 (([0] : List Int)) (wrap64 (3000 + (wrap64 (t310 * 20)))) 128).bind fun t323 => (if (t323.length : Int) = 1 then ((spec_MatBytes.f kj50 t312 (wrap64 (1 + (Int.tmod t275 8))) t296 t297 t316 1 t306 t307 (([0] : List Int)) (wrap64 (3000 + (wrap64 (t310 * 20)))) 128).bind fun t329 => ((laws_sameInts.f kj50 t323 t329).bind fun t332 => (laws_FnMatBound.j4 kj50 (wrap64 (1 + (Int.tmod t275 8))) x6_2 x7_2 t323 (!t332) t296 t297 t306 t307 (wrap64 (3000 + (wrap64 (t310 * 20)))) 128))) else (laws_FnMatBound.j4 kj50 (wrap64 (1 + (Int.tmod t275 8))) x6_2 x7_2 t323 true t296 t297 t306 t307 (wrap64 (3000 + (wrap64 (t310 * 20)))) 128))) = some r := by rw [if_neg (show ¬ (false = true) by decide)] at H; exact H
        clear H
        have H := H1
        clear H1
        obtain ⟨y320, hy320⟩ : ∃ y_ : List Int, y_ = (([0] : List Int)) := ⟨_, rfl⟩
        replace H : ((impl_MatBytes.f kj50 t312 (wrap64 (1 + (Int.tmod t275 8))) t296 t297 t316 1 t306 t307 y320 (wrap64 (3000 + (wrap64 (t310 * 20)))) 128).bind fun t323 => (if (t323.length : Int) = 1 then ((spec_MatBytes.f kj50 t312 (wrap64 (1 + (Int.tmod t275 8))) t296 t297 t316 1 t306 t307 (([0] : List Int)) (wrap64 (3000 + (wrap64 (t310 * 20)))) 128).bind fun t329 => ((laws_sameInts.f kj50 t323 t329).bind fun t332 => (laws_FnMatBound.j4 kj50 (wrap64 (1 + (Int.tmod t275 8))) x6_2 x7_2 t323 (!t332) t296 t297 t306 t307 (wrap64 (3000 + (wrap64 (t310 * 20)))) 128))) else (laws_FnMatBound.j4 kj50 (wrap64 (1 + (Int.tmod t275 8))) x6_2 x7_2 t323 true t296 t297 t306 t307 (wrap64 (3000 + (wrap64 (t310 * 20)))) 128))) = some r := by first | (rw [hy320]; with_reducible exact H) | (have H2_ := (Option.bind_some _ _).symm.trans H; rw [hy320]; with_reducible exact H2_) | (have H2_ := (Option.bind_some _ _).symm.trans H; with_reducible exact H2_) | with_reducible exact H | (rw [hy320]; exact H) | exact H
        have Ny320 := zK hy320
        clear hy320
        replace H := Option.bind_eq_some_iff.mp H
        obtain ⟨t323, A610, H⟩ := H
        replace H : (if (t323.length : Int) = 1 then ((spec_MatBytes.f kj50 t312 (wrap64 (1 + (Int.tmod t275 8))) t296 t297 t316 1 t306 t307 (([0] : List Int)) (wrap64 (3000 + (wrap64 (t310 * 20)))) 128).bind fun t329 => ((laws_sameInts.f kj50 t323 t329).bind fun t332 => (laws_FnMatBound.j4 kj50 (wrap64 (1 + (Int.tmod t275 8))) x6_2 x7_2 t323 (!t332) t296 t297 t306 t307 (wrap64 (3000 + (wrap64 (t310 * 20)))) 128))) else (laws_FnMatBound.j4 kj50 (wrap64 (1 + (Int.tmod t275 8))) x6_2 x7_2 t323 true t296 t297 t306 t307 (wrap64 (3000 + (wrap64 (t310 * 20)))) 128)) = some r := H
        have A61 := zK A610
        clear A610
        have HC62 := zK H
        clear H
        have hnb63 := NB299_309.out
        have hnc63 := NB309_299.out
        have hnb64 := NB299_311.out
        have hnc64 := NB311_299.out
        have hcz65_0 : wc.cell? ⟨gb299, 0, none⟩ = some (.int .i64 t296) := (zc BK299.out 0).trans rfl
        have hcz65_1 : wc.cell? ⟨gb299, 1, none⟩ = some (.int .i64 t297) := (zc BK299.out 1).trans rfl
        have hfz65_0 := zf BK299.out 0
        have hfz65_1 := zf BK299.out 1
        have hnb66 := NB309_311.out
        have hnc66 := NB311_309.out
        have hcz67_0 : wc.cell? ⟨gb309, 0, none⟩ = some (.int .i64 t306) := (zc BK309.out 0).trans rfl
        have hcz67_1 : wc.cell? ⟨gb309, 1, none⟩ = some (.int .i64 t307) := (zc BK309.out 1).trans rfl
        have hfz67_0 := zf BK309.out 0
        have hfz67_1 := zf BK309.out 1
        go_upto_region 21 with (first | ((with_reducible refine gate_dst (N := 104) rfl ?_); (try (refine gate_guard (by rfl) ?_; dsimp only)); refine Kd.R_lit (Kd.int .i64) _ 3 ?hg (N := 104) ?hd (xs := ([0] : List Int)) (inner := [.int .i64 0]) (ok := fun _ => True) (okp := fun _ => True) ?hr ?hp (fun _ hk => hk) trivial (Below.refl _ _) (Nat.le_refl _) (by simp) ?_; (case hd => rfl); (case hg => rfl); (case hr => first | (go_simp; done) | (go_simp; rfl)); (case hp => exact (Reps.one (show Kd.M (Kd.int .i64) _ _ _ 0 [.int .i64 0] from rfl) (Reps.none _ _))); intro v321 w68 ho69 hb hg_ hnew_; clear hg_ hnew_; (first | rw [← Ny320.out] at ho69 | (simp only [Int.reduceToNat] at ho69; rw [← Ny320.out] at ho69)); have n0_ := zK (Kd.R_elder' (by (with_reducible repeat (first | apply Kd.R_alloc | apply Kd.R_drewN | apply Kd.R_drew)); exact HO_6.out) (Kd.R_base ho69) hb); have n1_ := zK (Kd.R_elder' (by (with_reducible repeat (first | apply Kd.R_alloc | apply Kd.R_drewN | apply Kd.R_drew)); exact HO_7.out) (Kd.R_base ho69) hb); have n2_ := zK (Kd.R_elder' (by (with_reducible repeat (first | apply Kd.R_alloc | apply Kd.R_drewN | apply Kd.R_drew)); exact HO_14.out) (Kd.R_base ho69) hb); have n3_ := zK (Kd.R_elder' (by (with_reducible repeat (first | apply Kd.R_alloc | apply Kd.R_drewN | apply Kd.R_drew)); exact HO_16.out) (Kd.R_base ho69) hb); have n4_ := zK (Kd.R_lower (Kd.R_new' (Kd.R_new' (Kd.R_new' (Kd.R_new' ho69 (Kd.R_lt (by (with_reducible repeat (first | apply Kd.R_alloc | apply Kd.R_drewN | apply Kd.R_drew)); exact HO_6.out))) (Kd.R_lt (by (with_reducible repeat (first | apply Kd.R_alloc | apply Kd.R_drewN | apply Kd.R_drew)); exact HO_7.out))) (Kd.R_lt (by (with_reducible repeat (first | apply Kd.R_alloc | apply Kd.R_drewN | apply Kd.R_drew)); exact HO_14.out))) (Kd.R_lt (by (with_reducible repeat (first | apply Kd.R_alloc | apply Kd.R_drewN | apply Kd.R_drew)); exact HO_16.out))) (zz zB)); have n5_ := zK (zg (g := gb299) (o := .cells #[.int .i64 t296, .int .i64 t297] 45 (0, 0)) (by (with_reducible repeat (first | refine zn ?_ _ | refine zd ?_ | refine za ?_ _)); exact BK299.out) hb); have n6_ := zK (zg (g := gb309) (o := .cells #[.int .i64 t306, .int .i64 t307] 45 (0, 0)) (by (with_reducible repeat (first | refine zn ?_ _ | refine zd ?_ | refine za ?_ _)); exact BK309.out) hb); have n7_ := zK (zg (g := gb311) (o := .cells #[.int .i64 (wrap64 (3000 + (wrap64 (t310 * 20)))), .int .i64 128] 45 (0, 0)) (by (with_reducible repeat (first | refine zn ?_ _ | refine zd ?_ | refine za ?_ _)); exact BK311.out) hb); have n8_ := zK (zp zB hb); clear HO_6; clear HO_7; clear HO_14; clear HO_16; clear BK299; clear BK309; clear BK311; clear HB; have HO_6 := n0_; have HO_7 := n1_; have HO_14 := n2_; have HO_16 := n3_; have HO322 := n4_; have BK299 := n5_; have BK309 := n6_; have BK311 := n7_; have HB := n8_; clear n0_ n1_ n2_ n3_ n4_ n5_ n6_ n7_ n8_; clear hb ho69; have hcz70_0 : w68.cell? ⟨gb311, 0, none⟩ = some (.int .i64 (wrap64 (3000 + (wrap64 (t310 * 20))))) := (zc BK311.out 0).trans rfl; have hcz70_1 : w68.cell? ⟨gb311, 1, none⟩ = some (.int .i64 128) := (zc BK311.out 1).trans rfl; have hfz70_0 := zf BK311.out 0; have hfz70_1 := zf BK311.out 1; obtain ⟨Ao71, co71, eo71⟩ := Kd.R_slice HO_14.out; subst eo71; obtain ⟨Ao72, co72, eo72⟩ := Kd.R_slice HO_16.out; subst eo72; obtain ⟨Ao73, co73, eo73⟩ := Kd.R_slice HO322.out; subst eo73) | ((with_reducible refine gate_callee (f := 18) rfl ?_); refine goesL_ (some 106) rfl rfl Try.func18 (by kernel_rfl) rfl #[.slice Ao71 t312.length co71, .int .i64 (wrap64 (1 + (Int.tmod t275 8))), .agg #[.int .i64 t296, .int .i64 t297], .slice Ao72 t316.length co72, .int .i64 1, .agg #[.int .i64 t306, .int .i64 t307], .slice Ao73 y320.length co73, .agg #[.int .i64 (wrap64 (3000 + (wrap64 (t310 * 20)))), .int .i64 128]] rfl zL ?_; (with_reducible refine (impl_MatBytes.calls kj50 (fun k_ => some k_ = (.slice Ao71 t312.length co71 : Value).ownBlock) _ _ t312 (wrap64 (1 + (Int.tmod t275 8))) t296 t297 (fun k_ => some k_ = (.slice Ao72 t316.length co72 : Value).ownBlock) _ _ t316 1 t306 t307 _ _ y320 (wrap64 (3000 + (wrap64 (t310 * 20)))) 128 t323 _ ?side1 ?side2 ?side3 ?side4 A61.out).mono ?_); (case side1 => exact Kd.R_V (Kd.R_tight rfl (Kd.R_types (Kd.R_types (Kd.R_types (HO_14.out) BK299.out (by decide)) BK309.out (by decide)) BK311.out (by decide)))); (case side2 => exact Kd.R_V (Kd.R_tight rfl (Kd.R_types (Kd.R_types (Kd.R_types (HO_16.out) BK299.out (by decide)) BK309.out (by decide)) BK311.out (by decide)))); (case side3 => repeat (first | exact (Kd.R_reads' HO322.out).2.2 | (with_reducible refine Kd.C_alloc ?_ _) | (with_reducible refine Kd.C_drewN ?_ _) | (with_reducible refine Kd.C_drew ?_))); (case side4 => exact (Kd.R_reads' HO322.out).2.1); rintro e w74 ⟨v324, rfl, ho0, hb⟩; refine ⟨_, rfl, ?_⟩; have n0_ := zK (Kd.R_elder' (by (with_reducible repeat (first | apply Kd.R_alloc | apply Kd.R_drewN | apply Kd.R_drew)); exact HO_6.out) (Kd.R_base ho0) hb); have n1_ := zK (Kd.R_elder' (by (with_reducible repeat (first | apply Kd.R_alloc | apply Kd.R_drewN | apply Kd.R_drew)); exact HO_7.out) (Kd.R_base ho0) hb); have n2_ := zK (Kd.R_elder' (by (with_reducible repeat (first | apply Kd.R_alloc | apply Kd.R_drewN | apply Kd.R_drew)); exact HO_14.out) (Kd.R_base ho0) hb); have n3_ := zK (Kd.R_elder' (by (with_reducible repeat (first | apply Kd.R_alloc | apply Kd.R_drewN | apply Kd.R_drew)); exact HO_16.out) (Kd.R_base ho0) hb); have n4_ := zK (Kd.R_elder' (by (with_reducible repeat (first | apply Kd.R_alloc | apply Kd.R_drewN | apply Kd.R_drew)); exact HO322.out) (Kd.R_base ho0) hb); have n5_ := zK (Kd.R_lower (Kd.R_new' (Kd.R_new' (Kd.R_new' (Kd.R_new' (Kd.R_new' (Kd.R_mono (ok' := fun k_ => True) ho0 (fun _ hk_ => trivial)) (Kd.R_lt (by (with_reducible repeat (first | apply Kd.R_alloc | apply Kd.R_drewN | apply Kd.R_drew)); exact HO_6.out))) (Kd.R_lt (by (with_reducible repeat (first | apply Kd.R_alloc | apply Kd.R_drewN | apply Kd.R_drew)); exact HO_7.out))) (Kd.R_lt (by (with_reducible repeat (first | apply Kd.R_alloc | apply Kd.R_drewN | apply Kd.R_drew)); exact HO_14.out))) (Kd.R_lt (by (with_reducible repeat (first | apply Kd.R_alloc | apply Kd.R_drewN | apply Kd.R_drew)); exact HO_16.out))) (Kd.R_lt (by (with_reducible repeat (first | apply Kd.R_alloc | apply Kd.R_drewN | apply Kd.R_drew)); exact HO322.out))) (zz zB)); have n6_ := zK (zg (g := gb299) (o := .cells #[.int .i64 t296, .int .i64 t297] 45 (0, 0)) (by (with_reducible repeat (first | refine zn ?_ _ | refine zd ?_ | refine za ?_ _)); exact BK299.out) hb); have n7_ := zK (zg (g := gb309) (o := .cells #[.int .i64 t306, .int .i64 t307] 45 (0, 0)) (by (with_reducible repeat (first | refine zn ?_ _ | refine zd ?_ | refine za ?_ _)); exact BK309.out) hb); have n8_ := zK (zg (g := gb311) (o := .cells #[.int .i64 (wrap64 (3000 + (wrap64 (t310 * 20)))), .int .i64 128] 45 (0, 0)) (by (with_reducible repeat (first | refine zn ?_ _ | refine zd ?_ | refine za ?_ _)); exact BK311.out) hb); have n9_ := zK (zp zB hb); clear HO_6; clear HO_7; clear HO_14; clear HO_16; clear HO322; clear BK299; clear BK309; clear BK311; clear HB; have HO_6 := n0_; have HO_7 := n1_; have HO_14 := n2_; have HO_16 := n3_; have HO322 := n4_; have HO325 := n5_; have BK299 := n6_; have BK309 := n7_; have BK311 := n8_; have HB := n9_; clear n0_ n1_ n2_ n3_ n4_ n5_ n6_ n7_ n8_ n9_; (try clear hb); (try clear hb2); (try clear hk); (try clear hi); (try clear ho0)))
        (try simp only [Act.put, List.setIfInBounds_toArray, List.set_cons_zero, List.set_cons_succ])
        go_cut [122] (fun v122 wc => ∃ (kq : Nat) (x122_61 : Bool), v122 = .bool x122_61 ∧ Aside0 (laws_FnMatBound.j4 kq (wrap64 (1 + (Int.tmod t275 8))) x6_2 x7_2 t323 x122_61 t296 t297 t306 t307 (wrap64 (3000 + (wrap64 (t310 * 20)))) 128 = some r) ∧ Aside0 (kq ≤ kj50) ∧ Aside0 (Kd.R (Kd.int .i64) 3 wc w.heap.size (fun k_ => some k_ ≠ ((.slice Ao37 x7_2.length co37) : Value).ownBlock ∧ some k_ ≠ (v324 : Value).ownBlock) (.slice Ao29 x6_2.length co29) x6_2) ∧ Aside0 (Kd.R (Kd.int .i64) 3 wc w.heap.size (fun k_ => some k_ ≠ ((.slice Ao29 x6_2.length co29) : Value).ownBlock ∧ some k_ ≠ (v324 : Value).ownBlock) (.slice Ao37 x7_2.length co37) x7_2) ∧ Aside0 (Kd.R (Kd.int .i64) 3 wc w.heap.size (fun k_ => some k_ ≠ ((.slice Ao29 x6_2.length co29) : Value).ownBlock ∧ some k_ ≠ ((.slice Ao37 x7_2.length co37) : Value).ownBlock) v324 t323) ∧ Aside0 (wc.heap[gb299]? = some (.cells #[.int .i64 t296, .int .i64 t297] 45 (0, 0))) ∧ Aside0 (wc.heap[gb309]? = some (.cells #[.int .i64 t306, .int .i64 t307] 45 (0, 0))) ∧ Aside0 (wc.heap[gb311]? = some (.cells #[.int .i64 (wrap64 (3000 + (wrap64 (t310 * 20)))), .int .i64 128] 45 (0, 0))) ∧ Aside0 (Below w.heap.size w wc))
        case first =>
         have H := HC62.out
         clear HC62
         by_cases c75 : (t323.length : Int) = 1
         rotate_left
         · rw [if_neg c75] at H
           have c75b0 : ((t323.length : Int) == 1) = false := beq_eq_false_iff_ne.mpr c75
           have c75b1 : ((t323.length : Int) != 1) = true := bne_iff_ne.mpr c75
           (first | rw [c75b0] | (simp only [i64_w, i32_w]; rw [c75b0]) | skip)
           have H' := zK H
           clear H
           obtain ⟨Ao90, co90, eo90⟩ := Kd.R_slice HO325.out
           subst eo90
           go_wp2
           go_meet
           case rel => exact ⟨_, (true), zR, H', ⟨by have := HJ2.out; have := HK2.out; have := HJ24.out; have := HJ50.out; first | omega | exact Nat.le_refl _⟩, ⟨by (with_reducible repeat (first | apply Kd.R_alloc | apply Kd.R_drewN | apply Kd.R_drew)); exact Kd.R_mono HO_6.out (fun _ hk => ⟨hk.1.1.1, hk.2⟩)⟩, ⟨by (with_reducible repeat (first | apply Kd.R_alloc | apply Kd.R_drewN | apply Kd.R_drew)); exact Kd.R_mono HO_7.out (fun _ hk => ⟨hk.1.1.1, hk.2⟩)⟩, ⟨by (with_reducible repeat (first | apply Kd.R_alloc | apply Kd.R_drewN | apply Kd.R_drew)); exact Kd.R_mono HO325.out (fun _ hk => ⟨hk.1.1.1.1.2, hk.1.1.1.2⟩)⟩, ⟨by (with_reducible repeat (first | refine zn ?_ _ | refine zd ?_ | refine za ?_ _)); exact BK299.out⟩, ⟨by (with_reducible repeat (first | refine zn ?_ _ | refine zd ?_ | refine za ?_ _)); exact BK309.out⟩, ⟨by (with_reducible repeat (first | refine zn ?_ _ | refine zd ?_ | refine za ?_ _)); exact BK311.out⟩, ⟨zB⟩⟩
         rw [if_pos c75] at H
         have c75b0 : ((t323.length : Int) == 1) = true := beq_iff_eq.mpr c75
         have c75b1 : ((t323.length : Int) != 1) = false := bne_eq_false_iff_eq.mpr c75
         clear c75
         (first | rw [c75b0] | (simp only [i64_w, i32_w]; rw [c75b0]) | skip)
         obtain ⟨y326, hy326⟩ : ∃ y_ : List Int, y_ = (([0] : List Int)) := ⟨_, rfl⟩
         replace H : ((spec_MatBytes.f kj50 t312 (wrap64 (1 + (Int.tmod t275 8))) t296 t297 t316 1 t306 t307 y326 (wrap64 (3000 + (wrap64 (t310 * 20)))) 128).bind fun t329 => ((laws_sameInts.f kj50 t323 t329).bind fun t332 => (laws_FnMatBound.j4 kj50 (wrap64 (1 + (Int.tmod t275 8))) x6_2 x7_2 t323 (!t332) t296 t297 t306 t307 (wrap64 (3000 + (wrap64 (t310 * 20)))) 128))) = some r := by first | (rw [hy326]; with_reducible exact H) | (have H2_ := (Option.bind_some _ _).symm.trans H; rw [hy326]; with_reducible exact H2_) | (have H2_ := (Option.bind_some _ _).symm.trans H; with_reducible exact H2_) | with_reducible exact H | (rw [hy326]; exact H) | exact H
         have Ny326 := zK hy326
         clear hy326
         replace H := Option.bind_eq_some_iff.mp H
         obtain ⟨t329, A760, H⟩ := H
         replace H : ((laws_sameInts.f kj50 t323 t329).bind fun t332 => (laws_FnMatBound.j4 kj50 (wrap64 (1 + (Int.tmod t275 8))) x6_2 x7_2 t323 (!t332) t296 t297 t306 t307 (wrap64 (3000 + (wrap64 (t310 * 20)))) 128)) = some r := H
         have A76 := zK A760
         clear A760
         replace H := Option.bind_eq_some_iff.mp H
         obtain ⟨t332, A770, H⟩ := H
         replace H : (laws_FnMatBound.j4 kj50 (wrap64 (1 + (Int.tmod t275 8))) x6_2 x7_2 t323 (!t332) t296 t297 t306 t307 (wrap64 (3000 + (wrap64 (t310 * 20)))) 128) = some r := H
         have A77 := zK A770
         clear A770
         have H' := zK H
         clear H
         obtain ⟨Ao78, co78, eo78⟩ := Kd.R_slice HO325.out
         subst eo78
         have hnb79 := NB299_309.out
         have hnc79 := NB309_299.out
         have hnb80 := NB299_311.out
         have hnc80 := NB311_299.out
         have hcz81_0 : w74.cell? ⟨gb299, 0, none⟩ = some (.int .i64 t296) := (zc BK299.out 0).trans rfl
         have hcz81_1 : w74.cell? ⟨gb299, 1, none⟩ = some (.int .i64 t297) := (zc BK299.out 1).trans rfl
         have hfz81_0 := zf BK299.out 0
         have hfz81_1 := zf BK299.out 1
         have hnb82 := NB309_311.out
         have hnc82 := NB311_309.out
         have hcz83_0 : w74.cell? ⟨gb309, 0, none⟩ = some (.int .i64 t306) := (zc BK309.out 0).trans rfl
         have hcz83_1 : w74.cell? ⟨gb309, 1, none⟩ = some (.int .i64 t307) := (zc BK309.out 1).trans rfl
         have hfz83_0 := zf BK309.out 0
         have hfz83_1 := zf BK309.out 1
         go_wp2_with (first | ((with_reducible refine gate_dst (N := 117) rfl ?_); (try (refine gate_guard (by rfl) ?_; dsimp only)); refine Kd.R_lit (Kd.int .i64) _ 3 ?hg (N := 117) ?hd (xs := ([0] : List Int)) (inner := [.int .i64 0]) (ok := fun _ => True) (okp := fun _ => True) ?hr ?hp (fun _ hk => hk) trivial (Below.refl _ _) (Nat.le_refl _) (by simp) ?_; (case hd => rfl); (case hg => rfl); (case hr => first | (go_simp; done) | (go_simp; rfl)); (case hp => exact (Reps.one (show Kd.M (Kd.int .i64) _ _ _ 0 [.int .i64 0] from rfl) (Reps.none _ _))); intro v327 w84 ho85 hb hg_ hnew_; clear hg_ hnew_; (first | rw [← Ny326.out] at ho85 | (simp only [Int.reduceToNat] at ho85; rw [← Ny326.out] at ho85)); have n0_ := zK (Kd.R_elder' (by (with_reducible repeat (first | apply Kd.R_alloc | apply Kd.R_drewN | apply Kd.R_drew)); exact HO_6.out) (Kd.R_base ho85) hb); have n1_ := zK (Kd.R_elder' (by (with_reducible repeat (first | apply Kd.R_alloc | apply Kd.R_drewN | apply Kd.R_drew)); exact HO_7.out) (Kd.R_base ho85) hb); have n2_ := zK (Kd.R_elder' (by (with_reducible repeat (first | apply Kd.R_alloc | apply Kd.R_drewN | apply Kd.R_drew)); exact HO_14.out) (Kd.R_base ho85) hb); have n3_ := zK (Kd.R_elder' (by (with_reducible repeat (first | apply Kd.R_alloc | apply Kd.R_drewN | apply Kd.R_drew)); exact HO_16.out) (Kd.R_base ho85) hb); have n4_ := zK (Kd.R_elder' (by (with_reducible repeat (first | apply Kd.R_alloc | apply Kd.R_drewN | apply Kd.R_drew)); exact HO322.out) (Kd.R_base ho85) hb); have n5_ := zK (Kd.R_elder' (by (with_reducible repeat (first | apply Kd.R_alloc | apply Kd.R_drewN | apply Kd.R_drew)); exact HO325.out) (Kd.R_base ho85) hb); have n6_ := zK (Kd.R_lower (Kd.R_new' (Kd.R_new' (Kd.R_new' (Kd.R_new' (Kd.R_new' (Kd.R_new' ho85 (Kd.R_lt (by (with_reducible repeat (first | apply Kd.R_alloc | apply Kd.R_drewN | apply Kd.R_drew)); exact HO_6.out))) (Kd.R_lt (by (with_reducible repeat (first | apply Kd.R_alloc | apply Kd.R_drewN | apply Kd.R_drew)); exact HO_7.out))) (Kd.R_lt (by (with_reducible repeat (first | apply Kd.R_alloc | apply Kd.R_drewN | apply Kd.R_drew)); exact HO_14.out))) (Kd.R_lt (by (with_reducible repeat (first | apply Kd.R_alloc | apply Kd.R_drewN | apply Kd.R_drew)); exact HO_16.out))) (Kd.R_lt (by (with_reducible repeat (first | apply Kd.R_alloc | apply Kd.R_drewN | apply Kd.R_drew)); exact HO322.out))) (Kd.R_lt (by (with_reducible repeat (first | apply Kd.R_alloc | apply Kd.R_drewN | apply Kd.R_drew)); exact HO325.out))) (zz zB)); have n7_ := zK (zg (g := gb299) (o := .cells #[.int .i64 t296, .int .i64 t297] 45 (0, 0)) (by (with_reducible repeat (first | refine zn ?_ _ | refine zd ?_ | refine za ?_ _)); exact BK299.out) hb); have n8_ := zK (zg (g := gb309) (o := .cells #[.int .i64 t306, .int .i64 t307] 45 (0, 0)) (by (with_reducible repeat (first | refine zn ?_ _ | refine zd ?_ | refine za ?_ _)); exact BK309.out) hb); have n9_ := zK (zg (g := gb311) (o := .cells #[.int .i64 (wrap64 (3000 + (wrap64 (t310 * 20)))), .int .i64 128] 45 (0, 0)) (by (with_reducible repeat (first | refine zn ?_ _ | refine zd ?_ | refine za ?_ _)); exact BK311.out) hb); have n10_ := zK (zp zB hb); clear HO_6; clear HO_7; clear HO_14; clear HO_16; clear HO322; clear HO325; clear BK299; clear BK309; clear BK311; clear HB; have HO_6 := n0_; have HO_7 := n1_; have HO_14 := n2_; have HO_16 := n3_; have HO322 := n4_; have HO325 := n5_; have HO328 := n6_; have BK299 := n7_; have BK309 := n8_; have BK311 := n9_; have HB := n10_; clear n0_ n1_ n2_ n3_ n4_ n5_ n6_ n7_ n8_ n9_ n10_; clear hb ho85; have hcz86_0 : w84.cell? ⟨gb311, 0, none⟩ = some (.int .i64 (wrap64 (3000 + (wrap64 (t310 * 20))))) := (zc BK311.out 0).trans rfl; have hcz86_1 : w84.cell? ⟨gb311, 1, none⟩ = some (.int .i64 128) := (zc BK311.out 1).trans rfl; have hfz86_0 := zf BK311.out 0; have hfz86_1 := zf BK311.out 1; obtain ⟨Ao87, co87, eo87⟩ := Kd.R_slice HO328.out; subst eo87) | (go_at_call 20; (with_reducible refine (spec_MatBytes.calls kj50 _ _ t312 (wrap64 (1 + (Int.tmod t275 8))) t296 t297 _ _ t316 1 t306 t307 _ _ y326 (wrap64 (3000 + (wrap64 (t310 * 20)))) 128 t329 _ ?side1 ?side2 ?side3 ?side4 ?side5 ?side6 A76.out).mono ?_); (case side1 => repeat (first | exact (Kd.R_reads' HO_14.out).2.2 | (with_reducible refine Kd.C_alloc ?_ _) | (with_reducible refine Kd.C_drewN ?_ _) | (with_reducible refine Kd.C_drew ?_))); (case side2 => exact (Kd.R_reads' HO_14.out).2.1); (case side3 => repeat (first | exact (Kd.R_reads' HO_16.out).2.2 | (with_reducible refine Kd.C_alloc ?_ _) | (with_reducible refine Kd.C_drewN ?_ _) | (with_reducible refine Kd.C_drew ?_))); (case side4 => exact (Kd.R_reads' HO_16.out).2.1); (case side5 => repeat (first | exact (Kd.R_reads' HO328.out).2.2 | (with_reducible refine Kd.C_alloc ?_ _) | (with_reducible refine Kd.C_drewN ?_ _) | (with_reducible refine Kd.C_drew ?_))); (case side6 => exact (Kd.R_reads' HO328.out).2.1); rintro e w88 ⟨v330, rfl, ho0, hb⟩; have n0_ := zK (Kd.R_elder' (by (with_reducible repeat (first | apply Kd.R_alloc | apply Kd.R_drewN | apply Kd.R_drew)); exact HO_6.out) (Kd.R_base ho0) hb); have n1_ := zK (Kd.R_elder' (by (with_reducible repeat (first | apply Kd.R_alloc | apply Kd.R_drewN | apply Kd.R_drew)); exact HO_7.out) (Kd.R_base ho0) hb); have n2_ := zK (Kd.R_elder' (by (with_reducible repeat (first | apply Kd.R_alloc | apply Kd.R_drewN | apply Kd.R_drew)); exact HO_14.out) (Kd.R_base ho0) hb); have n3_ := zK (Kd.R_elder' (by (with_reducible repeat (first | apply Kd.R_alloc | apply Kd.R_drewN | apply Kd.R_drew)); exact HO_16.out) (Kd.R_base ho0) hb); have n4_ := zK (Kd.R_elder' (by (with_reducible repeat (first | apply Kd.R_alloc | apply Kd.R_drewN | apply Kd.R_drew)); exact HO322.out) (Kd.R_base ho0) hb); have n5_ := zK (Kd.R_elder' (by (with_reducible repeat (first | apply Kd.R_alloc | apply Kd.R_drewN | apply Kd.R_drew)); exact HO325.out) (Kd.R_base ho0) hb); have n6_ := zK (Kd.R_elder' (by (with_reducible repeat (first | apply Kd.R_alloc | apply Kd.R_drewN | apply Kd.R_drew)); exact HO328.out) (Kd.R_base ho0) hb); have n7_ := zK (Kd.R_lower (Kd.R_new' (Kd.R_new' (Kd.R_new' (Kd.R_new' (Kd.R_new' (Kd.R_new' (Kd.R_new' ho0 (Kd.R_lt (by (with_reducible repeat (first | apply Kd.R_alloc | apply Kd.R_drewN | apply Kd.R_drew)); exact HO_6.out))) (Kd.R_lt (by (with_reducible repeat (first | apply Kd.R_alloc | apply Kd.R_drewN | apply Kd.R_drew)); exact HO_7.out))) (Kd.R_lt (by (with_reducible repeat (first | apply Kd.R_alloc | apply Kd.R_drewN | apply Kd.R_drew)); exact HO_14.out))) (Kd.R_lt (by (with_reducible repeat (first | apply Kd.R_alloc | apply Kd.R_drewN | apply Kd.R_drew)); exact HO_16.out))) (Kd.R_lt (by (with_reducible repeat (first | apply Kd.R_alloc | apply Kd.R_drewN | apply Kd.R_drew)); exact HO322.out))) (Kd.R_lt (by (with_reducible repeat (first | apply Kd.R_alloc | apply Kd.R_drewN | apply Kd.R_drew)); exact HO325.out))) (Kd.R_lt (by (with_reducible repeat (first | apply Kd.R_alloc | apply Kd.R_drewN | apply Kd.R_drew)); exact HO328.out))) (zz zB)); have n8_ := zK (zg (g := gb299) (o := .cells #[.int .i64 t296, .int .i64 t297] 45 (0, 0)) (by (with_reducible repeat (first | refine zn ?_ _ | refine zd ?_ | refine za ?_ _)); exact BK299.out) hb); have n9_ := zK (zg (g := gb309) (o := .cells #[.int .i64 t306, .int .i64 t307] 45 (0, 0)) (by (with_reducible repeat (first | refine zn ?_ _ | refine zd ?_ | refine za ?_ _)); exact BK309.out) hb); have n10_ := zK (zg (g := gb311) (o := .cells #[.int .i64 (wrap64 (3000 + (wrap64 (t310 * 20)))), .int .i64 128] 45 (0, 0)) (by (with_reducible repeat (first | refine zn ?_ _ | refine zd ?_ | refine za ?_ _)); exact BK311.out) hb); have n11_ := zK (zp zB hb); clear HO_6; clear HO_7; clear HO_14; clear HO_16; clear HO322; clear HO325; clear HO328; clear BK299; clear BK309; clear BK311; clear HB; have HO_6 := n0_; have HO_7 := n1_; have HO_14 := n2_; have HO_16 := n3_; have HO322 := n4_; have HO325 := n5_; have HO328 := n6_; have HO331 := n7_; have BK299 := n8_; have BK309 := n9_; have BK311 := n10_; have HB := n11_; clear n0_ n1_ n2_ n3_ n4_ n5_ n6_ n7_ n8_ n9_ n10_ n11_; (try clear hb); (try clear hb2); (try clear hk); (try clear hi); (try clear ho0); obtain ⟨Ao89, co89, eo89⟩ := Kd.R_slice HO331.out; subst eo89) | (go_at_call 19; (with_reducible refine (laws_sameInts.calls kj50 _ _ t323 _ _ t329 t332 _ ?side1 ?side2 ?side3 ?side4 A77.out).mono ?_); (case side1 => repeat (first | exact (Kd.R_reads' HO325.out).2.2 | (with_reducible refine Kd.C_alloc ?_ _) | (with_reducible refine Kd.C_drewN ?_ _) | (with_reducible refine Kd.C_drew ?_))); (case side2 => exact (Kd.R_reads' HO325.out).2.1); (case side3 => repeat (first | exact (Kd.R_reads' HO331.out).2.2 | (with_reducible refine Kd.C_alloc ?_ _) | (with_reducible refine Kd.C_drewN ?_ _) | (with_reducible refine Kd.C_drew ?_))); (case side4 => exact (Kd.R_reads' HO331.out).2.1); rintro e w' ⟨rfl, ⟨nd, rfl⟩⟩))
         go_meet
         case rel => exact ⟨_, (!t332), zR, H', ⟨by have := HJ2.out; have := HK2.out; have := HJ24.out; have := HJ50.out; first | omega | exact Nat.le_refl _⟩, ⟨by (with_reducible repeat (first | apply Kd.R_alloc | apply Kd.R_drewN | apply Kd.R_drew)); exact Kd.R_mono HO_6.out (fun _ hk => ⟨hk.1.1.1.1.1, hk.1.1.2⟩)⟩, ⟨by (with_reducible repeat (first | apply Kd.R_alloc | apply Kd.R_drewN | apply Kd.R_drew)); exact Kd.R_mono HO_7.out (fun _ hk => ⟨hk.1.1.1.1.1, hk.1.1.2⟩)⟩, ⟨by (with_reducible repeat (first | apply Kd.R_alloc | apply Kd.R_drewN | apply Kd.R_drew)); exact Kd.R_mono HO325.out (fun _ hk => ⟨hk.1.1.1.1.1.1.2, hk.1.1.1.1.1.2⟩)⟩, ⟨by (with_reducible repeat (first | refine zn ?_ _ | refine zd ?_ | refine za ?_ _)); exact BK299.out⟩, ⟨by (with_reducible repeat (first | refine zn ?_ _ | refine zd ?_ | refine za ?_ _)); exact BK309.out⟩, ⟨by (with_reducible repeat (first | refine zn ?_ _ | refine zd ?_ | refine za ?_ _)); exact BK311.out⟩, ⟨zB⟩⟩
        case rest =>
         clear HC62
         try clear c1
         try clear c2
         try clear p2
         try clear c4
         try clear c5
         try clear c6
         try clear p6
         try clear c7
         try clear c8
         try clear c13
         try clear c13b0
         try clear c14
         try clear c15
         try clear c16
         try clear c17
         try clear c18
         try clear c20
         try clear c22
         try clear c41
         try clear c44
         try clear c45
         try clear c47
         try clear c48
         try clear c52
         try clear c53
         try clear c56
         try clear c59
         try clear c60
         try clear c63
         try clear c64
         try clear p64
         try clear c66
         try clear c75
         try clear c75b0
         try clear c75b1
         try clear c79
         try clear c80
         try clear c82
         try clear hcz33_0
         try clear hcz33_1
         try clear hcz42_0
         try clear hcz42_1
         try clear hcz46_0
         try clear hcz46_1
         try clear hcz54_0
         try clear hcz54_1
         try clear hcz57_0
         try clear hcz57_1
         try clear hcz65_0
         try clear hcz65_1
         try clear hcz67_0
         try clear hcz67_1
         try clear hcz70_0
         try clear hcz70_1
         try clear hcz81_0
         try clear hcz81_1
         try clear hcz83_0
         try clear hcz83_1
         try clear hcz86_0
         try clear hcz86_1
         try clear hfz33_0
         try clear hfz33_1
         try clear hfz42_0
         try clear hfz42_1
         try clear hfz46_0
         try clear hfz46_1
         try clear hfz54_0
         try clear hfz54_1
         try clear hfz57_0
         try clear hfz57_1
         try clear hfz65_0
         try clear hfz65_1
         try clear hfz67_0
         try clear hfz67_1
         try clear hfz70_0
         try clear hfz70_1
         try clear hfz81_0
         try clear hfz81_1
         try clear hfz83_0
         try clear hfz83_1
         try clear hfz86_0
         try clear hfz86_1
         try clear p2
         try clear p6
         obtain ⟨kq, x122_61, rfl, HA, HJ61, HO_6, HO_7, HO_18, BK299, BK309, BK311, HB⟩ := hcut
         cases kq with
         | zero => exact absurd HA.out (by simp [laws_FnMatBound.j4])
         | succ kj61 =>
          have H := HA.out
          clear HA
          simp only [laws_FnMatBound.j4] at H
          by_cases c91 : x122_61 = true
          · subst c91
            have H1 : (some false) = some r := by rw [if_pos rfl] at H; exact H
            clear H
            have H := H1
            clear H1
            obtain rfl := Option.some.inj H
            go_wp2
            go_ret
            exact ⟨by first | rfl | (simp [errW_none, errW_some] <;> rfl) | (simp [*, errW_none, errW_some] <;> rfl), zB⟩
          replace c91 := Bool.eq_false_iff.mpr c91
          subst c91
          have H1 : (laws_FnMatBound.l1 kj61 (wrap64 (1 + (Int.tmod t275 8))) x6_2 x7_2 t323 0 0 t296 t297 t306 t307 (wrap64 (3000 + (wrap64 (t310 * 20)))) 128) = some r := by rw [if_neg (show ¬ (false = true) by decide)] at H; exact H
          clear H
          have H := H1
          clear H1
          have H' := zK H
          clear H
          go_wp2
          go_loopg [19, 20] kj61 (fun kq v19 v20 w' => ∃ (x19_6 : Int) (x20_6 : Int), v19 = .int .i64 x19_6 ∧ v20 = .int .i64 x20_6 ∧ Aside0 (laws_FnMatBound.l1 kq (wrap64 (1 + (Int.tmod t275 8))) x6_2 x7_2 t323 x19_6 x20_6 t296 t297 t306 t307 (wrap64 (3000 + (wrap64 (t310 * 20)))) 128 = some r) ∧ Aside0 (kq ≤ kj61) ∧ Aside0 (Kd.R (Kd.int .i64) 3 w' w.heap.size (fun k_ => some k_ ≠ ((.slice Ao37 x7_2.length co37) : Value).ownBlock ∧ some k_ ≠ (v324 : Value).ownBlock) (.slice Ao29 x6_2.length co29) x6_2) ∧ Aside0 (Kd.R (Kd.int .i64) 3 w' w.heap.size (fun k_ => some k_ ≠ ((.slice Ao29 x6_2.length co29) : Value).ownBlock ∧ some k_ ≠ (v324 : Value).ownBlock) (.slice Ao37 x7_2.length co37) x7_2) ∧ Aside0 (Kd.R (Kd.int .i64) 3 w' w.heap.size (fun k_ => some k_ ≠ ((.slice Ao29 x6_2.length co29) : Value).ownBlock ∧ some k_ ≠ ((.slice Ao37 x7_2.length co37) : Value).ownBlock) v324 t323) ∧ Aside0 (w'.heap[gb299]? = some (.cells #[.int .i64 t296, .int .i64 t297] 45 (0, 0))) ∧ Aside0 (w'.heap[gb309]? = some (.cells #[.int .i64 t306, .int .i64 t307] 45 (0, 0))) ∧ Aside0 (w'.heap[gb311]? = some (.cells #[.int .i64 (wrap64 (3000 + (wrap64 (t310 * 20)))), .int .i64 128] 45 (0, 0))) ∧ Aside0 (Below w.heap.size w w'))
          case atStart => exact ⟨(0), (0), zR, zR, H', ⟨Nat.le_refl _⟩, ⟨by (with_reducible repeat (first | apply Kd.R_alloc | apply Kd.R_drewN | apply Kd.R_drew)); exact HO_6.out⟩, ⟨by (with_reducible repeat (first | apply Kd.R_alloc | apply Kd.R_drewN | apply Kd.R_drew)); exact HO_7.out⟩, ⟨by (with_reducible repeat (first | apply Kd.R_alloc | apply Kd.R_drewN | apply Kd.R_drew)); exact HO_18.out⟩, ⟨by (with_reducible repeat (first | refine zn ?_ _ | refine zd ?_ | refine za ?_ _)); exact BK299.out⟩, ⟨by (with_reducible repeat (first | refine zn ?_ _ | refine zd ?_ | refine za ?_ _)); exact BK309.out⟩, ⟨by (with_reducible repeat (first | refine zn ?_ _ | refine zd ?_ | refine za ?_ _)); exact BK311.out⟩, ⟨zB⟩⟩
          clear H'
          try clear c1
          try clear c2
          try clear p2
          try clear c4
          try clear c5
          try clear c6
          try clear p6
          try clear c7
          try clear c8
          try clear c9
          try clear c13
          try clear c13b0
          try clear c14
          try clear c15
          try clear c16
          try clear c17
          try clear c18
          try clear c20
          try clear c22
          try clear c41
          try clear c44
          try clear c45
          try clear c47
          try clear c48
          try clear c52
          try clear c53
          try clear c56
          try clear c59
          try clear c60
          try clear c63
          try clear c64
          try clear p64
          try clear c66
          try clear c75
          try clear c75b0
          try clear c75b1
          try clear c79
          try clear c80
          try clear c82
          try clear c91
          try clear hcz33_0
          try clear hcz33_1
          try clear hcz42_0
          try clear hcz42_1
          try clear hcz46_0
          try clear hcz46_1
          try clear hcz54_0
          try clear hcz54_1
          try clear hcz57_0
          try clear hcz57_1
          try clear hcz65_0
          try clear hcz65_1
          try clear hcz67_0
          try clear hcz67_1
          try clear hcz70_0
          try clear hcz70_1
          try clear hcz81_0
          try clear hcz81_1
          try clear hcz83_0
          try clear hcz83_1
          try clear hcz86_0
          try clear hcz86_1
          try clear hfz33_0
          try clear hfz33_1
          try clear hfz42_0
          try clear hfz42_1
          try clear hfz46_0
          try clear hfz46_1
          try clear hfz54_0
          try clear hfz54_1
          try clear hfz57_0
          try clear hfz57_1
          try clear hfz65_0
          try clear hfz65_1
          try clear hfz67_0
          try clear hfz67_1
          try clear hfz70_0
          try clear hfz70_1
          try clear hfz81_0
          try clear hfz81_1
          try clear hfz83_0
          try clear hfz83_1
          try clear hfz86_0
          try clear hfz86_1
          try clear p2
          try clear p6
          try clear p64
          obtain ⟨x19_6, x20_6, rfl, rfl, HA, HK6, HO_6, HO_7, HO_18, BK299, BK309, BK311, HB⟩ := hrel
          rcases gk with _ | k6
          · exact absurd HA.out (by simp [laws_FnMatBound.l1])
          have H := HA.out
          clear HA
          simp only [laws_FnMatBound.l1] at H
          by_cases c92 : x20_6 < (wrap64 (1 + (Int.tmod t275 8)))
          · rw [if_pos c92] at H
            have c92b0 : decide (x20_6 < (wrap64 (1 + (Int.tmod t275 8)))) = true := decide_eq_true c92
            clear c92
            by_cases c93 : 0 ≤ x20_6
            rotate_left
            · rw [if_neg c93] at H
              exact absurd H (by simp)
            rw [if_pos c93] at H
            have c93b0 : decide (0 ≤ x20_6) = true := decide_eq_true c93
            clear c93
            by_cases c94 : x20_6 < (x6_2.length : Int)
            rotate_left
            · rw [if_neg c94] at H
              exact absurd H (by simp)
            rw [if_pos c94] at H
            have c94b0 : decide (x20_6 < (x6_2.length : Int)) = true := decide_eq_true c94
            clear c94
            by_cases c95 : x20_6 < (x7_2.length : Int)
            rotate_left
            · rw [if_neg c95] at H
              exact absurd H (by simp)
            rw [if_pos c95] at H
            have c95b0 : decide (x20_6 < (x7_2.length : Int)) = true := decide_eq_true c95
            clear c95
            have H' := zK H
            clear H
            try go_wp2
            have n0_ := zK (Kd.R_drew HO_6.out)
            have n1_ := zK (Kd.R_drew HO_7.out)
            have n2_ := zK (Kd.R_drew HO_18.out)
            have n3_ := zK (zd BK299.out)
            have n4_ := zK (zd BK309.out)
            have n5_ := zK (zd BK311.out)
            have n6_ := zK (ze HB.out)
            clear HO_6
            clear HO_7
            clear HO_18
            clear BK299
            clear BK309
            clear BK311
            clear HB
            have HO_6 := n0_
            have HO_7 := n1_
            have HO_18 := n2_
            have BK299 := n3_
            have BK309 := n4_
            have BK311 := n5_
            have HB := n6_
            clear n0_ n1_ n2_ n3_ n4_ n5_ n6_
            have p333 : 0 ≤ (x20_6 : Int) := of_decide_eq_true zA
            have q333 : x20_6 < (x6_2.length : Int) := of_decide_eq_true zA
            obtain ⟨ad333, e333, hx333_0⟩ := Kd.at_int (Kd.R_reads' HO_6.out).2.2 x20_6 p333 q333
            cases e333
            replace p333 := eq_true p333
            replace q333 := eq_true q333
            have p334 : 0 ≤ (x20_6 : Int) := of_decide_eq_true zA
            have q334 : x20_6 < (x7_2.length : Int) := of_decide_eq_true zA
            obtain ⟨ad334, e334, hx334_0⟩ := Kd.at_int (Kd.R_reads' HO_7.out).2.2 x20_6 p334 q334
            cases e334
            replace p334 := eq_true p334
            replace q334 := eq_true q334
            refine start_ (n := 12) (S := fun w' => w'.cell? (ad333.add (x20_6).toNat) = some (.int .i64 (rd x6_2 x20_6)) ∧ w'.cell? (ad334.add (x20_6).toNat) = some (.int .i64 (rd x7_2 x20_6))) (ds := []) #[false, false, false, false, false, false, false, false, false, false, false, false] (by kernel_rfl) rfl rfl ⟨hx333_0, hx334_0⟩ (fun hHeld => ?_); refine with_tabW laws_FnMatBound.tab27 laws_FnMatBound.bits27 (fun HT_ HW_ => ?_)
            generalize wr.drew = w96 at HO_6 HO_7 HO_18 BK299 BK309 BK311 HB hx333_0 hx334_0 hHeld ⊢
            refine pure_ (i := 0) (N := some 128) (v := ?_) (a' := ?_) #[true, false, false, false, false, false, false, false, false, false, false, false] rfl rfl (any_of HT_.out (by kernel_rfl)) (fun _ _ _ h => h) (Or.inl ⟨by rfl, ?_⟩) ?_ ?_
            rotate_left
            · intro w'
              go_simp
              with_reducible rfl
            rotate_left
            · simp only [Act.put, List.setIfInBounds_toArray, List.set_cons_zero, List.set_cons_succ, i64_w, i32_w]
              rfl
            refine pure_ (i := 1) (N := some 129) (v := ?_) (a' := ?_) #[true, true, false, false, false, false, false, false, false, false, false, false] rfl rfl (any_of HT_.out (by kernel_rfl)) (fun _ _ _ h => h) (Or.inl ⟨by rfl, ?_⟩) ?_ ?_
            rotate_left
            · intro w'
              go_simp
              with_reducible rfl
            rotate_left
            · simp only [Act.put, List.setIfInBounds_toArray, List.set_cons_zero, List.set_cons_succ, i64_w, i32_w]
              rfl
            refine pure_ (i := 2) (N := some 130) (v := ?_) (a' := ?_) #[true, true, true, false, false, false, false, false, false, false, false, false] rfl rfl (any_of HT_.out (by kernel_rfl)) (fun _ _ _ h => h) (Or.inl ⟨by rfl, ?_⟩) ?_ ?_
            rotate_left
            · intro w'
              go_simp
              with_reducible rfl
            rotate_left
            · simp only [Act.put, List.setIfInBounds_toArray, List.set_cons_zero, List.set_cons_succ, i64_w, i32_w]
              rfl
            refine pure_ (i := 3) (N := some 131) (v := ?_) (a' := ?_) #[true, true, true, true, false, false, false, false, false, false, false, false] rfl rfl (any_of HT_.out (by kernel_rfl)) (fun _ _ _ h => h) (Or.inl ⟨by rfl, ?_⟩) ?_ ?_
            rotate_left
            · intro w'
              go_simp
              with_reducible rfl
            rotate_left
            · simp only [Act.put, List.setIfInBounds_toArray, List.set_cons_zero, List.set_cons_succ, i64_w, i32_w]
              rfl
            refine pure_ (i := 5) (N := some 133) (v := ?_) (a' := ?_) #[true, true, true, true, false, true, false, false, false, false, false, false] rfl rfl (any_of HT_.out (by kernel_rfl)) (fun _ _ _ h => h) (Or.inl ⟨by rfl, ?_⟩) ?_ ?_
            rotate_left
            · intro w'
              go_simp
              with_reducible rfl
            rotate_left
            · simp only [Act.put, List.setIfInBounds_toArray, List.set_cons_zero, List.set_cons_succ, i64_w, i32_w]
              rfl
            refine pure_ (i := 6) (N := some 134) (v := ?_) (a' := ?_) #[true, true, true, true, false, true, true, false, false, false, false, false] rfl rfl (any_of HT_.out (by kernel_rfl)) (fun _ _ _ h => h) (Or.inl ⟨by rfl, ?_⟩) ?_ ?_
            rotate_left
            · intro w'
              go_simp
              with_reducible rfl
            rotate_left
            · simp only [Act.put, List.setIfInBounds_toArray, List.set_cons_zero, List.set_cons_succ, i64_w, i32_w]
              rfl
            refine pure_ (i := 7) (N := some 135) (v := ?_) (a' := ?_) #[true, true, true, true, false, true, true, true, false, false, false, false] rfl rfl (any_of HT_.out (by kernel_rfl)) (fun _ _ _ h => h) (Or.inl ⟨by rfl, ?_⟩) ?_ ?_
            rotate_left
            · intro w'
              go_simp
              with_reducible rfl
            rotate_left
            · simp only [Act.put, List.setIfInBounds_toArray, List.set_cons_zero, List.set_cons_succ, i64_w, i32_w]
              rfl
            refine take_ (i := 4) (N := some 132) (v := ?_) (a' := ?_) #[true, true, true, true, true, true, true, true, false, false, false, false] rfl rfl (take_ofW HT_.out HW_.out (by kernel_rfl)) (fun _ _ _ h => h) (Or.inl ⟨by rfl, ?_⟩) hHeld ?_ ?_
            rotate_left
            · rintro w' ⟨s0, s1⟩
              go_simp
              with_reducible rfl
            rotate_left
            · simp only [Act.put, List.setIfInBounds_toArray, List.set_cons_zero, List.set_cons_succ, i64_w, i32_w]
              rfl
            refine take_ (i := 8) (N := some 136) (v := ?_) (a' := ?_) #[true, true, true, true, true, true, true, true, true, false, false, false] rfl rfl (take_ofW HT_.out HW_.out (by kernel_rfl)) (fun _ _ _ h => h) (Or.inl ⟨by rfl, ?_⟩) hHeld ?_ ?_
            rotate_left
            · rintro w' ⟨s0, s1⟩
              go_simp
              with_reducible rfl
            rotate_left
            · simp only [Act.put, List.setIfInBounds_toArray, List.set_cons_zero, List.set_cons_succ, i64_w, i32_w]
              rfl
            refine pure_ (i := 9) (N := some 137) (v := ?_) (a' := ?_) #[true, true, true, true, true, true, true, true, true, true, false, false] rfl rfl (any_of HT_.out (by kernel_rfl)) (fun _ _ _ h => h) (Or.inl ⟨by rfl, ?_⟩) ?_ ?_
            rotate_left
            · intro w'
              go_simp
              with_reducible rfl
            rotate_left
            · simp only [Act.put, List.setIfInBounds_toArray, List.set_cons_zero, List.set_cons_succ, i64_w, i32_w]
              rfl
            refine pure_ (i := 10) (N := some 138) (v := ?_) (a' := ?_) #[true, true, true, true, true, true, true, true, true, true, true, false] rfl rfl (any_of HT_.out (by kernel_rfl)) (fun _ _ _ h => h) (Or.inl ⟨by rfl, ?_⟩) ?_ ?_
            rotate_left
            · intro w'
              go_simp
              with_reducible rfl
            rotate_left
            · simp only [Act.put, List.setIfInBounds_toArray, List.set_cons_zero, List.set_cons_succ, i64_w, i32_w]
              rfl
            refine pure_ (i := 11) (N := some 19) (v := ?_) (a' := ?_) #[true, true, true, true, true, true, true, true, true, true, true, true] rfl rfl (any_of HT_.out (by kernel_rfl)) (fun _ _ _ h => h) (Or.inl ⟨by rfl, ?_⟩) ?_ ?_
            rotate_left
            · intro w'
              go_simp
              with_reducible rfl
            rotate_left
            · simp only [Act.put, List.setIfInBounds_toArray, List.set_cons_zero, List.set_cons_succ, i64_w, i32_w]
              rfl
            refine done_ (done_of HT_.out (by kernel_rfl)) ?_
            try go_wp2
            go_roundg k6
            case measure => have := HJ2.out; have := HK2.out; have := HJ24.out; have := HJ50.out; have := HJ61.out; have := HK6.out; omega
            case rel => exact ⟨(wrap64 (x19_6 + (wrap64 ((rd x6_2 x20_6) * (rd x7_2 x20_6))))), (wrap64 (x20_6 + 1)), zR, zR, H', ⟨by have := HJ2.out; have := HK2.out; have := HJ24.out; have := HJ50.out; have := HJ61.out; have := HK6.out; omega⟩, ⟨by (with_reducible repeat (first | apply Kd.R_alloc | apply Kd.R_drewN | apply Kd.R_drew)); exact HO_6.out⟩, ⟨by (with_reducible repeat (first | apply Kd.R_alloc | apply Kd.R_drewN | apply Kd.R_drew)); exact HO_7.out⟩, ⟨by (with_reducible repeat (first | apply Kd.R_alloc | apply Kd.R_drewN | apply Kd.R_drew)); exact HO_18.out⟩, ⟨by (with_reducible repeat (first | refine zn ?_ _ | refine zd ?_ | refine za ?_ _)); exact BK299.out⟩, ⟨by (with_reducible repeat (first | refine zn ?_ _ | refine zd ?_ | refine za ?_ _)); exact BK309.out⟩, ⟨by (with_reducible repeat (first | refine zn ?_ _ | refine zd ?_ | refine za ?_ _)); exact BK311.out⟩, ⟨zB⟩⟩
          rw [if_neg c92] at H
          have c92b0 : decide (x20_6 < (wrap64 (1 + (Int.tmod t275 8)))) = false := decide_eq_false c92
          clear c92
          have HC97 := zK H
          clear H
          go_upto_region 28 with (fail)
          go_cut [148] (fun v148 wc => ∃ (kq : Nat) (x148_96 : Bool), v148 = .bool x148_96 ∧ Aside0 (laws_FnMatBound.j6 kq (wrap64 (1 + (Int.tmod t275 8))) t323 x19_6 x148_96 t296 t297 t306 t307 (wrap64 (3000 + (wrap64 (t310 * 20)))) 128 = some r) ∧ Aside0 (kq ≤ k6) ∧ Aside0 (Kd.R (Kd.int .i64) 3 wc w.heap.size (fun _ => True) v324 t323) ∧ Aside0 (wc.heap[gb299]? = some (.cells #[.int .i64 t296, .int .i64 t297] 45 (0, 0))) ∧ Aside0 (wc.heap[gb309]? = some (.cells #[.int .i64 t306, .int .i64 t307] 45 (0, 0))) ∧ Aside0 (wc.heap[gb311]? = some (.cells #[.int .i64 (wrap64 (3000 + (wrap64 (t310 * 20)))), .int .i64 128] 45 (0, 0))) ∧ Aside0 (Below w.heap.size w wc))
          case first =>
           have H := HC97.out
           clear HC97
           by_cases c98 : 0 < (t323.length : Int)
           rotate_left
           · rw [if_neg c98] at H
             exact absurd H (by simp)
           rw [if_pos c98] at H
           have c98b0 : decide (0 < (t323.length : Int)) = true := decide_eq_true c98
           have c98b1 : decide (0 < t323.length) = true := decide_eq_true (by omega)
           clear c98
           (first | rw [c98b0] | (simp only [i64_w, i32_w]; rw [c98b0]) | skip)
           by_cases c99 : (rd t323 0) = 0
           · rw [if_pos c99] at H
             have c99b0 : ((rd t323 0) == 0) = true := beq_iff_eq.mpr c99
             have c99b1 : ((rd t323 0) != 0) = false := bne_eq_false_iff_eq.mpr c99
             clear c99
             have H' := zK H
             clear H
             obtain ⟨Ao100, co100, eo100⟩ := Kd.R_slice HO_18.out
             subst eo100
             have p335 : 0 ≤ (0 : Int) := (by omega)
             have q335 : 0 < (t323.length : Int) := of_decide_eq_true zA
             obtain ⟨ad335, e335, hx335_0⟩ := Kd.at_int (Kd.R_reads' HO_18.out).2.2 0 p335 q335
             cases e335
             have qi335 : (0 < t323.length) = True := eq_true (by omega)
             (try rw [show ((0 : Int)).toNat = 0 from rfl] at hx335_0)
             (try rw [Addr.add_zero'] at hx335_0)
             replace p335 := eq_true p335
             replace q335 := eq_true q335
             go_wp2
             go_meet
             case rel => exact ⟨_, (true), zR, H', ⟨by have := HJ2.out; have := HK2.out; have := HJ24.out; have := HJ50.out; have := HJ61.out; have := HK6.out; first | omega | exact Nat.le_refl _⟩, ⟨by (with_reducible repeat (first | apply Kd.R_alloc | apply Kd.R_drewN | apply Kd.R_drew)); exact Kd.R_mono HO_18.out (fun _ hk => trivial)⟩, ⟨by (with_reducible repeat (first | refine zn ?_ _ | refine zd ?_ | refine za ?_ _)); exact BK299.out⟩, ⟨by (with_reducible repeat (first | refine zn ?_ _ | refine zd ?_ | refine za ?_ _)); exact BK309.out⟩, ⟨by (with_reducible repeat (first | refine zn ?_ _ | refine zd ?_ | refine za ?_ _)); exact BK311.out⟩, ⟨zB⟩⟩
           rw [if_neg c99] at H
           have c99b0 : ((rd t323 0) == 0) = false := beq_eq_false_iff_ne.mpr c99
           have c99b1 : ((rd t323 0) != 0) = true := bne_iff_ne.mpr c99
           have H' := zK H
           clear H
           obtain ⟨Ao101, co101, eo101⟩ := Kd.R_slice HO_18.out
           subst eo101
           have p335 : 0 ≤ (0 : Int) := (by omega)
           have q335 : 0 < (t323.length : Int) := of_decide_eq_true zA
           obtain ⟨ad335, e335, hx335_0⟩ := Kd.at_int (Kd.R_reads' HO_18.out).2.2 0 p335 q335
           cases e335
           have qi335 : (0 < t323.length) = True := eq_true (by omega)
           (try rw [show ((0 : Int)).toNat = 0 from rfl] at hx335_0)
           (try rw [Addr.add_zero'] at hx335_0)
           replace p335 := eq_true p335
           replace q335 := eq_true q335
           have p336 : 0 ≤ (0 : Int) := (by omega)
           have q336 : 0 < (t323.length : Int) := of_decide_eq_true zA
           obtain ⟨ad336, e336, hx336_0⟩ := Kd.at_int (Kd.R_reads' HO_18.out).2.2 0 p336 q336
           obtain rfl : ad335 = ad336 := (by injection e336)
           have qi336 : (0 < t323.length) = True := eq_true (by omega)
           (try rw [show ((0 : Int)).toNat = 0 from rfl] at hx336_0)
           (try rw [Addr.add_zero'] at hx336_0)
           replace p336 := eq_true p336
           replace q336 := eq_true q336
           go_wp2
           go_meet
           case rel => exact ⟨_, (((rd t323 0) == 255)), zR, H', ⟨by have := HJ2.out; have := HK2.out; have := HJ24.out; have := HJ50.out; have := HJ61.out; have := HK6.out; first | omega | exact Nat.le_refl _⟩, ⟨by (with_reducible repeat (first | apply Kd.R_alloc | apply Kd.R_drewN | apply Kd.R_drew)); exact Kd.R_mono HO_18.out (fun _ hk => trivial)⟩, ⟨by (with_reducible repeat (first | refine zn ?_ _ | refine zd ?_ | refine za ?_ _)); exact BK299.out⟩, ⟨by (with_reducible repeat (first | refine zn ?_ _ | refine zd ?_ | refine za ?_ _)); exact BK309.out⟩, ⟨by (with_reducible repeat (first | refine zn ?_ _ | refine zd ?_ | refine za ?_ _)); exact BK311.out⟩, ⟨zB⟩⟩
          case rest =>
           clear HC97
           try clear c1
           try clear c2
           try clear p2
           try clear p3
           try clear q3
           try clear hx3
           try clear qi3
           try clear c4
           try clear c5
           try clear c6
           try clear p6
           try clear c7
           try clear c8
           try clear c9
           try clear c13
           try clear c13b0
           try clear c14
           try clear c15
           try clear c16
           try clear c17
           try clear c18
           try clear c20
           try clear c22
           try clear p33
           try clear q33
           try clear hx33
           try clear qi33
           try clear c41
           try clear c44
           try clear c45
           try clear c47
           try clear c48
           try clear c52
           try clear c53
           try clear c56
           try clear c59
           try clear c60
           try clear c63
           try clear c64
           try clear p64
           try clear c66
           try clear c75
           try clear c75b0
           try clear c75b1
           try clear c79
           try clear c80
           try clear c82
           try clear c91
           try clear c92
           try clear c92b0
           try clear c93
           try clear c93b0
           try clear c94
           try clear c94b0
           try clear c95
           try clear c95b0
           try clear c98
           try clear c98b0
           try clear c98b1
           try clear c99
           try clear c99b0
           try clear c99b1
           try clear hcz33_0
           try clear hcz33_1
           try clear hcz42_0
           try clear hcz42_1
           try clear hcz46_0
           try clear hcz46_1
           try clear hcz54_0
           try clear hcz54_1
           try clear hcz57_0
           try clear hcz57_1
           try clear hcz65_0
           try clear hcz65_1
           try clear hcz67_0
           try clear hcz67_1
           try clear hcz70_0
           try clear hcz70_1
           try clear hcz81_0
           try clear hcz81_1
           try clear hcz83_0
           try clear hcz83_1
           try clear hcz86_0
           try clear hcz86_1
           try clear hfz33_0
           try clear hfz33_1
           try clear hfz42_0
           try clear hfz42_1
           try clear hfz46_0
           try clear hfz46_1
           try clear hfz54_0
           try clear hfz54_1
           try clear hfz57_0
           try clear hfz57_1
           try clear hfz65_0
           try clear hfz65_1
           try clear hfz67_0
           try clear hfz67_1
           try clear hfz70_0
           try clear hfz70_1
           try clear hfz81_0
           try clear hfz81_1
           try clear hfz83_0
           try clear hfz83_1
           try clear hfz86_0
           try clear hfz86_1
           try clear hx333_0
           try clear hx334_0
           try clear hx335_0
           try clear hx336_0
           try clear p2
           try clear p333
           try clear p334
           try clear p335
           try clear p336
           try clear p6
           try clear p64
           try clear q333
           try clear q334
           try clear q335
           try clear q336
           obtain ⟨kq, x148_96, rfl, HA, HJ96, HO_18, BK299, BK309, BK311, HB⟩ := hcut
           cases kq with
           | zero => exact absurd HA.out (by simp [laws_FnMatBound.j6])
           | succ kj96 =>
            have H := HA.out
            clear HA
            simp only [laws_FnMatBound.j6] at H
            by_cases c102 : x148_96 = true
            · subst c102
              have H1 : (some true) = some r := by rw [if_pos rfl] at H; exact H
              clear H
              have H := H1
              clear H1
              obtain rfl := Option.some.inj H
              go_wp2
              go_ret
              exact ⟨by first | rfl | (simp [errW_none, errW_some] <;> rfl) | (simp [*, errW_none, errW_some] <;> rfl), zB⟩
            replace c102 := Bool.eq_false_iff.mpr c102
            subst c102
            have H1 : (if 0 < (t323.length : Int) then ((impl_Value.f (wrap64 (3000 + (wrap64 (t310 * 20)))) 128 (rd t323 0)).bind fun t338 => ((laws_abs.f (wrap64 ((wrap64 (t338 * 65536)) - x19_6))).bind fun t339 => ((impl_Bound.f kj96 (wrap64 (1 + (Int.tmod t275 8))) t296 t297 t306 t307 (wrap64 (3000 + (wrap64 (t310 * 20)))) 128 89600 38400).bind fun t340 => (some (decide (t339 ≤ (wrap64 (t340 * 65536)))))))) else (none)) = some r := by rw [if_neg (show ¬ (false = true) by decide)] at H; exact H
            clear H
            have H := H1
            clear H1
            by_cases c103 : 0 < (t323.length : Int)
            rotate_left
            · rw [if_neg c103] at H
              exact absurd H (by simp)
            rw [if_pos c103] at H
            have c103b0 : decide (0 < (t323.length : Int)) = true := decide_eq_true c103
            have c103b1 : decide (0 < t323.length) = true := decide_eq_true (by omega)
            clear c103
            replace H := Option.bind_eq_some_iff.mp H
            obtain ⟨t338, A1040, H⟩ := H
            replace H : ((laws_abs.f (wrap64 ((wrap64 (t338 * 65536)) - x19_6))).bind fun t339 => ((impl_Bound.f kj96 (wrap64 (1 + (Int.tmod t275 8))) t296 t297 t306 t307 (wrap64 (3000 + (wrap64 (t310 * 20)))) 128 89600 38400).bind fun t340 => (some (decide (t339 ≤ (wrap64 (t340 * 65536))))))) = some r := H
            have A104 := zK A1040
            clear A1040
            replace H := Option.bind_eq_some_iff.mp H
            obtain ⟨t339, A1050, H⟩ := H
            replace H : ((impl_Bound.f kj96 (wrap64 (1 + (Int.tmod t275 8))) t296 t297 t306 t307 (wrap64 (3000 + (wrap64 (t310 * 20)))) 128 89600 38400).bind fun t340 => (some (decide (t339 ≤ (wrap64 (t340 * 65536)))))) = some r := H
            have A105 := zK A1050
            clear A1050
            replace H := Option.bind_eq_some_iff.mp H
            obtain ⟨t340, A1060, H⟩ := H
            replace H : (some (decide (t339 ≤ (wrap64 (t340 * 65536))))) = some r := H
            have A106 := zK A1060
            clear A1060
            obtain rfl := Option.some.inj H
            try go_wp2
            have n0_ := zK (Kd.R_drew HO_18.out)
            have n1_ := zK (zd BK299.out)
            have n2_ := zK (zd BK309.out)
            have n3_ := zK (zd BK311.out)
            have n4_ := zK (ze HB.out)
            clear HO_18
            clear BK299
            clear BK309
            clear BK311
            clear HB
            have HO_18 := n0_
            have BK299 := n1_
            have BK309 := n2_
            have BK311 := n3_
            have HB := n4_
            clear n0_ n1_ n2_ n3_ n4_
            obtain ⟨Ao108, co108, eo108⟩ := Kd.R_slice HO_18.out
            (first | subst eo108 | (injection eo108 with f1_ f2_ f3_; have f4_ := f1_.symm; have f5_ := f3_.symm; clear f1_ f2_ f3_; subst f4_; subst f5_))
            have p337 : 0 ≤ (0 : Int) := (by omega)
            have q337 : 0 < (t323.length : Int) := of_decide_eq_true zA
            obtain ⟨ad337, e337, hx337_0⟩ := Kd.at_int (Kd.R_reads' HO_18.out).2.2 0 p337 q337
            cases e337
            have qi337 : (0 < t323.length) = True := eq_true (by omega)
            (try rw [show ((0 : Int)).toNat = 0 from rfl] at hx337_0)
            (try rw [Addr.add_zero'] at hx337_0)
            replace p337 := eq_true p337
            replace q337 := eq_true q337
            refine start_ (n := 17) (S := fun w' => w'.cell? ⟨gb311, 0, none⟩ = some (.int .i64 (wrap64 (3000 + (wrap64 (t310 * 20))))) ∧ w'.cell? ⟨gb311, 1, none⟩ = some (.int .i64 128) ∧ w'.cell? ⟨gb299, 0, none⟩ = some (.int .i64 t296) ∧ w'.cell? ⟨gb299, 1, none⟩ = some (.int .i64 t297) ∧ w'.cell? ⟨gb309, 0, none⟩ = some (.int .i64 t306) ∧ w'.cell? ⟨gb309, 1, none⟩ = some (.int .i64 t307) ∧ w'.cell? ad337 = some (.int .i64 (rd t323 0))) (ds := []) #[false, false, false, false, false, false, false, false, false, false, false, false, false, false, false, false, false] (by kernel_rfl) rfl rfl ⟨(zc BK311.out 0).trans rfl, (zc BK311.out 1).trans rfl, (zc BK299.out 0).trans rfl, (zc BK299.out 1).trans rfl, (zc BK309.out 0).trans rfl, (zc BK309.out 1).trans rfl, hx337_0⟩ (fun hHeld => ?_); refine with_tabW laws_FnMatBound.tab30 laws_FnMatBound.bits30 (fun HT_ HW_ => ?_)
            generalize wc.drew = w107 at HO_18 BK299 BK309 BK311 HB hx337_0 hHeld ⊢
            refine pure_ (i := 1) (N := some 150) (v := ?_) (a' := ?_) #[false, true, false, false, false, false, false, false, false, false, false, false, false, false, false, false, false] rfl rfl (any_of HT_.out (by kernel_rfl)) (fun _ _ _ h => h) (Or.inl ⟨by rfl, ?_⟩) ?_ ?_
            rotate_left
            · intro w'
              go_simp
              with_reducible rfl
            rotate_left
            · simp only [Act.put, List.setIfInBounds_toArray, List.set_cons_zero, List.set_cons_succ, i64_w, i32_w]
              rfl
            refine pure_ (i := 2) (N := some 151) (v := ?_) (a' := ?_) #[false, true, true, false, false, false, false, false, false, false, false, false, false, false, false, false, false] rfl rfl (any_of HT_.out (by kernel_rfl)) (fun _ _ _ h => h) (Or.inl ⟨by rfl, ?_⟩) ?_ ?_
            rotate_left
            · intro w'
              go_simp
              with_reducible rfl
            rotate_left
            · simp only [Act.put, List.setIfInBounds_toArray, List.set_cons_zero, List.set_cons_succ, i64_w, i32_w]
              rfl
            refine pure_ (i := 6) (N := some 155) (v := ?_) (a' := ?_) #[false, true, true, false, false, false, true, false, false, false, false, false, false, false, false, false, false] rfl rfl (any_of HT_.out (by kernel_rfl)) (fun _ _ _ h => h) (Or.inl ⟨by rfl, ?_⟩) ?_ ?_
            rotate_left
            · intro w'
              go_simp
              with_reducible rfl
            rotate_left
            · simp only [Act.put, List.setIfInBounds_toArray, List.set_cons_zero, List.set_cons_succ, i64_w, i32_w]
              rfl
            refine pure_ (i := 9) (N := some 158) (v := ?_) (a' := ?_) #[false, true, true, false, false, false, true, false, false, true, false, false, false, false, false, false, false] rfl rfl (any_of HT_.out (by kernel_rfl)) (fun _ _ _ h => h) (Or.inl ⟨by rfl, ?_⟩) ?_ ?_
            rotate_left
            · intro w'
              go_simp
              with_reducible rfl
            rotate_left
            · simp only [Act.put, List.setIfInBounds_toArray, List.set_cons_zero, List.set_cons_succ, i64_w, i32_w]
              rfl
            refine take_ (i := 0) (N := some 149) (v := ?_) (a' := ?_) #[true, true, true, false, false, false, true, false, false, true, false, false, false, false, false, false, false] rfl rfl (take_ofW HT_.out HW_.out (by kernel_rfl)) (fun _ _ _ h => h) (Or.inl ⟨by rfl, ?_⟩) hHeld ?_ ?_
            rotate_left
            · rintro w' ⟨s0, s1, s2, s3, s4, s5, s6⟩
              go_simp
              with_reducible rfl
            rotate_left
            · simp only [Act.put, List.setIfInBounds_toArray, List.set_cons_zero, List.set_cons_succ, i64_w, i32_w]
              rfl
            refine take_ (i := 3) (N := some 152) (v := ?_) (a' := ?_) #[true, true, true, true, false, false, true, false, false, true, false, false, false, false, false, false, false] rfl rfl (take_ofW HT_.out HW_.out (by kernel_rfl)) (fun _ _ _ h => h) (Or.inl ⟨by rfl, ?_⟩) hHeld ?_ ?_
            rotate_left
            · rintro w' ⟨s0, s1, s2, s3, s4, s5, s6⟩
              go_simp
              with_reducible rfl
            rotate_left
            · simp only [Act.put, List.setIfInBounds_toArray, List.set_cons_zero, List.set_cons_succ, i64_w, i32_w]
              rfl
            refine take_ (i := 10) (N := some 159) (v := ?_) (a' := ?_) #[true, true, true, true, false, false, true, false, false, true, true, false, false, false, false, false, false] rfl rfl (take_ofW HT_.out HW_.out (by kernel_rfl)) (fun _ _ _ h => h) (Or.inl ⟨by rfl, ?_⟩) hHeld ?_ ?_
            rotate_left
            · rintro w' ⟨s0, s1, s2, s3, s4, s5, s6⟩
              go_simp
              with_reducible rfl
            rotate_left
            · simp only [Act.put, List.setIfInBounds_toArray, List.set_cons_zero, List.set_cons_succ, i64_w, i32_w]
              rfl
            refine take_ (i := 11) (N := some 160) (v := ?_) (a' := ?_) #[true, true, true, true, false, false, true, false, false, true, true, true, false, false, false, false, false] rfl rfl (take_ofW HT_.out HW_.out (by kernel_rfl)) (fun _ _ _ h => h) (Or.inl ⟨by rfl, ?_⟩) hHeld ?_ ?_
            rotate_left
            · rintro w' ⟨s0, s1, s2, s3, s4, s5, s6⟩
              go_simp
              with_reducible rfl
            rotate_left
            · simp only [Act.put, List.setIfInBounds_toArray, List.set_cons_zero, List.set_cons_succ, i64_w, i32_w]
              rfl
            refine take_ (i := 12) (N := some 161) (v := ?_) (a' := ?_) #[true, true, true, true, false, false, true, false, false, true, true, true, true, false, false, false, false] rfl rfl (take_ofW HT_.out HW_.out (by kernel_rfl)) (fun _ _ _ h => h) (Or.inl ⟨by rfl, ?_⟩) hHeld ?_ ?_
            rotate_left
            · rintro w' ⟨s0, s1, s2, s3, s4, s5, s6⟩
              go_simp
              with_reducible rfl
            rotate_left
            · simp only [Act.put, List.setIfInBounds_toArray, List.set_cons_zero, List.set_cons_succ, i64_w, i32_w]
              rfl
            refine one_ (i := 4) (N := some 153) #[true, true, true, true, true, false, true, false, false, true, true, true, true, false, false, false, false] rfl rfl (one_of HT_.out (by kernel_rfl)) (by decide) (fun K hK => ?_)
            refine goes_ Try.func22 (by kernel_rfl) rfl #[.agg #[.int .i64 (wrap64 (3000 + (wrap64 (t310 * 20)))), .int .i64 128], .int .i64 (rd t323 0)] (by rfl) rfl rfl zL ?_
            with_reducible refine (impl_Value.calls (wrap64 (3000 + (wrap64 (t310 * 20)))) 128 (rd t323 0) t338 _ A104.out).mono ?_
            rintro e w109 ⟨rfl, hb⟩
            have HS6_ := (hb.cell (World.block_lt_of_cell? _ _ (hHeld.2.2.2.2.2.2))).trans (hHeld.2.2.2.2.2.2)
            refine ⟨_, rfl, ?_⟩
            have n0_ := zK (Kd.R_below (by (with_reducible repeat (first | apply Kd.R_alloc | apply Kd.R_drewN | apply Kd.R_drew)); exact HO_18.out) hb)
            have n1_ := zK (zg (g := gb299) (o := .cells #[.int .i64 t296, .int .i64 t297] 45 (0, 0)) (by (with_reducible repeat (first | refine zn ?_ _ | refine zd ?_ | refine za ?_ _)); exact BK299.out) hb)
            have n2_ := zK (zg (g := gb309) (o := .cells #[.int .i64 t306, .int .i64 t307] 45 (0, 0)) (by (with_reducible repeat (first | refine zn ?_ _ | refine zd ?_ | refine za ?_ _)); exact BK309.out) hb)
            have n3_ := zK (zg (g := gb311) (o := .cells #[.int .i64 (wrap64 (3000 + (wrap64 (t310 * 20)))), .int .i64 128] 45 (0, 0)) (by (with_reducible repeat (first | refine zn ?_ _ | refine zd ?_ | refine za ?_ _)); exact BK311.out) hb)
            have n4_ := zK (zp zB hb)
            clear HO_18
            clear BK299
            clear BK309
            clear BK311
            clear HB
            have HO_18 := n0_
            have BK299 := n1_
            have BK309 := n2_
            have BK311 := n3_
            have HB := n4_
            clear n0_ n1_ n2_ n3_ n4_
            (try clear hb)
            (try clear hb2)
            (try clear hk)
            (try clear hi)
            refine hK.out _ _ ⟨(zc BK311.out 0).trans rfl, (zc BK311.out 1).trans rfl, (zc BK299.out 0).trans rfl, (zc BK299.out 1).trans rfl, (zc BK309.out 0).trans rfl, (zc BK309.out 1).trans rfl, HS6_⟩ (fun hHeld => ?_)
            clear hK K
            refine norm_ (a' := ?_) ?_ ?_
            rotate_left
            · show Act.put _ (some 153) _ = _
              simp only [Act.put, List.setIfInBounds_toArray, List.set_cons_zero, List.set_cons_succ, i64_w, i32_w]
              rfl
            refine pure_ (i := 5) (N := some 154) (v := ?_) (a' := ?_) #[true, true, true, true, true, true, true, false, false, true, true, true, true, false, false, false, false] rfl rfl (any_of HT_.out (by kernel_rfl)) (fun _ _ _ h => h) (Or.inl ⟨by rfl, ?_⟩) ?_ ?_
            rotate_left
            · intro w'
              go_simp
              with_reducible rfl
            rotate_left
            · simp only [Act.put, List.setIfInBounds_toArray, List.set_cons_zero, List.set_cons_succ, i64_w, i32_w]
              rfl
            refine pure_ (i := 7) (N := some 156) (v := ?_) (a' := ?_) #[true, true, true, true, true, true, true, true, false, true, true, true, true, false, false, false, false] rfl rfl (any_of HT_.out (by kernel_rfl)) (fun _ _ _ h => h) (Or.inl ⟨by rfl, ?_⟩) ?_ ?_
            rotate_left
            · intro w'
              go_simp
              with_reducible rfl
            rotate_left
            · simp only [Act.put, List.setIfInBounds_toArray, List.set_cons_zero, List.set_cons_succ, i64_w, i32_w]
              rfl
            refine one_ (i := 8) (N := some 157) #[true, true, true, true, true, true, true, true, true, true, true, true, true, false, false, false, false] rfl rfl (one_of HT_.out (by kernel_rfl)) (by decide) (fun K hK => ?_)
            refine goes_ Try.func21 (by kernel_rfl) rfl #[.int .i64 (wrap64 ((wrap64 (t338 * 65536)) - x19_6))] (by rfl) rfl rfl zL ?_
            with_reducible refine (laws_abs.calls (wrap64 ((wrap64 (t338 * 65536)) - x19_6)) t339 _ A105.out).mono ?_
            rintro e w' ⟨rfl, ⟨nd, rfl⟩⟩
            refine ⟨_, rfl, ?_⟩
            refine hK.out _ _ ⟨(zc BK311.out 0).trans rfl, (zc BK311.out 1).trans rfl, (zc BK299.out 0).trans rfl, (zc BK299.out 1).trans rfl, (zc BK309.out 0).trans rfl, (zc BK309.out 1).trans rfl, hHeld.2.2.2.2.2.2⟩ (fun hHeld => ?_)
            clear hK K
            refine norm_ (a' := ?_) ?_ ?_
            rotate_left
            · show Act.put _ (some 157) _ = _
              simp only [Act.put, List.setIfInBounds_toArray, List.set_cons_zero, List.set_cons_succ, i64_w, i32_w]
              rfl
            refine one_ (i := 13) (N := some 162) #[true, true, true, true, true, true, true, true, true, true, true, true, true, true, false, false, false] rfl rfl (one_of HT_.out (by kernel_rfl)) (by decide) (fun K hK => ?_)
            refine goes_ Try.func23 (by kernel_rfl) rfl #[.int .i64 (wrap64 (1 + (Int.tmod t275 8))), .agg #[.int .i64 t296, .int .i64 t297], .agg #[.int .i64 t306, .int .i64 t307], .agg #[.int .i64 (wrap64 (3000 + (wrap64 (t310 * 20)))), .int .i64 128], .int .i64 89600, .int .i64 38400] (by rfl) rfl rfl zL ?_
            with_reducible refine (impl_Bound.calls kj96 (wrap64 (1 + (Int.tmod t275 8))) t296 t297 t306 t307 (wrap64 (3000 + (wrap64 (t310 * 20)))) 128 89600 38400 t340 _ A106.out).mono ?_
            rintro e w110 ⟨rfl, hb⟩
            have HS6_ := (hb.cell (World.block_lt_of_cell? _ _ (hHeld.2.2.2.2.2.2))).trans (hHeld.2.2.2.2.2.2)
            refine ⟨_, rfl, ?_⟩
            have n0_ := zK (Kd.R_below (by (with_reducible repeat (first | apply Kd.R_alloc | apply Kd.R_drewN | apply Kd.R_drew)); exact HO_18.out) hb)
            have n1_ := zK (zg (g := gb299) (o := .cells #[.int .i64 t296, .int .i64 t297] 45 (0, 0)) (by (with_reducible repeat (first | refine zn ?_ _ | refine zd ?_ | refine za ?_ _)); exact BK299.out) hb)
            have n2_ := zK (zg (g := gb309) (o := .cells #[.int .i64 t306, .int .i64 t307] 45 (0, 0)) (by (with_reducible repeat (first | refine zn ?_ _ | refine zd ?_ | refine za ?_ _)); exact BK309.out) hb)
            have n3_ := zK (zg (g := gb311) (o := .cells #[.int .i64 (wrap64 (3000 + (wrap64 (t310 * 20)))), .int .i64 128] 45 (0, 0)) (by (with_reducible repeat (first | refine zn ?_ _ | refine zd ?_ | refine za ?_ _)); exact BK311.out) hb)
            have n4_ := zK (zp zB hb)
            clear HO_18
            clear BK299
            clear BK309
            clear BK311
            clear HB
            have HO_18 := n0_
            have BK299 := n1_
            have BK309 := n2_
            have BK311 := n3_
            have HB := n4_
            clear n0_ n1_ n2_ n3_ n4_
            (try clear hb)
            (try clear hb2)
            (try clear hk)
            (try clear hi)
            refine hK.out _ _ ⟨(zc BK311.out 0).trans rfl, (zc BK311.out 1).trans rfl, (zc BK299.out 0).trans rfl, (zc BK299.out 1).trans rfl, (zc BK309.out 0).trans rfl, (zc BK309.out 1).trans rfl, HS6_⟩ (fun hHeld => ?_)
            clear hK K
            refine norm_ (a' := ?_) ?_ ?_
            rotate_left
            · show Act.put _ (some 162) _ = _
              simp only [Act.put, List.setIfInBounds_toArray, List.set_cons_zero, List.set_cons_succ, i64_w, i32_w]
              rfl
            refine pure_ (i := 14) (N := some 163) (v := ?_) (a' := ?_) #[true, true, true, true, true, true, true, true, true, true, true, true, true, true, true, false, false] rfl rfl (any_of HT_.out (by kernel_rfl)) (fun _ _ _ h => h) (Or.inl ⟨by rfl, ?_⟩) ?_ ?_
            rotate_left
            · intro w'
              go_simp
              with_reducible rfl
            rotate_left
            · simp only [Act.put, List.setIfInBounds_toArray, List.set_cons_zero, List.set_cons_succ, i64_w, i32_w]
              rfl
            refine pure_ (i := 15) (N := some 164) (v := ?_) (a' := ?_) #[true, true, true, true, true, true, true, true, true, true, true, true, true, true, true, true, false] rfl rfl (any_of HT_.out (by kernel_rfl)) (fun _ _ _ h => h) (Or.inl ⟨by rfl, ?_⟩) ?_ ?_
            rotate_left
            · intro w'
              go_simp
              with_reducible rfl
            rotate_left
            · simp only [Act.put, List.setIfInBounds_toArray, List.set_cons_zero, List.set_cons_succ, i64_w, i32_w]
              rfl
            refine pure_ (i := 16) (N := some 4) (v := ?_) (a' := ?_) #[true, true, true, true, true, true, true, true, true, true, true, true, true, true, true, true, true] rfl rfl (any_of HT_.out (by kernel_rfl)) (fun _ _ _ h => h) (Or.inl ⟨by rfl, ?_⟩) ?_ ?_
            rotate_left
            · intro w'
              go_simp
              with_reducible rfl
            rotate_left
            · simp only [Act.put, List.setIfInBounds_toArray, List.set_cons_zero, List.set_cons_succ, i64_w, i32_w]
              rfl
            refine done_ (done_of HT_.out (by kernel_rfl)) ?_
            try go_wp2
            go_ret
            exact ⟨by first | rfl | (simp [errW_none, errW_some] <;> rfl) | (simp [*, errW_none, errW_some] <;> rfl), zB⟩

/-- THE ONE PURE STATEMENT of laws_FnMatBound: yours. -/
def laws_FnMatBound.Pure : Prop := ∀ (l0 : List Int) (l1 : List Int), l0.length ≤ maxLen → l0.length * 1 ≤ 140737488351232 → (∀ x ∈ l0, (Lit.int .u8 x).wf = true) → l1.length ≤ maxLen → l1.length * 1 ≤ 140737488351232 → (∀ x ∈ l1, (Lit.int .u8 x).wf = true) → ∃ k, laws_FnMatBound.f k l0 l1 = some true
theorem laws_FnMatBound.walk (P : laws_FnMatBound.Pure) (a0 : Option Addr) (len0 cap0 : Nat) (z0 : List Int) (a1 : Option Addr) (len1 cap1 : Nat) (z1 : List Int) (w : World) (w0 : (a0 = none ∧ len0 = 0 ∧ cap0 = 0 ∧ z0 = []) ∨ ∃ x, a0 = some x ∧ len0 ≤ cap0 ∧ cap0 ≤ maxLen ∧ z0.length = cap0 ∧ (∀ i, i < z0.length → w.cell? (x.add i) = some (.int .u8 (z0.getD i 0))) ∧ ∀ n ∈ z0, (Lit.int .u8 n).wf = true) (y0 : len0 * 1 ≤ 140737488351232) (w1 : (a1 = none ∧ len1 = 0 ∧ cap1 = 0 ∧ z1 = []) ∨ ∃ x, a1 = some x ∧ len1 ≤ cap1 ∧ cap1 ≤ maxLen ∧ z1.length = cap1 ∧ (∀ i, i < z1.length → w.cell? (x.add i) = some (.int .u8 (z1.getD i 0))) ∧ ∀ n ∈ z1, (Lit.int .u8 n).wf = true) (y1 : len1 * 1 ≤ 140737488351232) :
    Calls Try.prog 4 #[.slice a0 len0 cap0, .slice a1 len1 cap1] w fun e w' => e = .returned (.bool true) ∧ Below w.heap.size w w' := by
  obtain ⟨l0, rfl, hr0, hm0, hw0, hc0⟩ := ReadsInt.ofRowC w0
  obtain ⟨l1, rfl, hr1, hm1, hw1, hc1⟩ := ReadsInt.ofRowC w1
  obtain ⟨k, h⟩ := P l0 l1 hm0 y0 hw0 hm1 y1 hw1
  refine (laws_FnMatBound.calls k _ _ l0 _ _ l1 true w (Kd.C_of_reads (d := (0 : Int)) (h1 := fun _ => rfl) hr0) hc0 (Kd.C_of_reads (d := (0 : Int)) (h1 := fun _ => rfl) hr1) hc1 h).mono ?_
  rintro e w' ⟨rfl, hd⟩
  exact ⟨rfl, hd⟩

end Go.Proofs.Ytemcipcijhkhjaa.PFnMatBound
