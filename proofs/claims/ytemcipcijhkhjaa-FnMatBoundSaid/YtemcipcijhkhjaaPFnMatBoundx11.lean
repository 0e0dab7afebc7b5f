-- Printed out of the translation by this session's own turned copy of a printer; Lean checks it.
import Derived.Test.YtemcipcijhkhjaaPFnMatBoundx0
import Derived.Test.YtemcipcijhkhjaaPFnMatBoundx7
import Derived.Test.YtemcipcijhkhjaaPFnMatBoundx8
import Derived.Test.YtemcipcijhkhjaaPFnMatBoundx9
import Derived.Test.YtemcipcijhkhjaaPFnMatBoundx10
namespace Go.Proofs.Ytemcipcijhkhjaa.PFnMatBound
open Go.RowKit Go.Proofs.YtemcipcijhkhjaaW.PrintWords Go.Proofs.YtemcipcijhkhjaaW.PrintLast Go.Proofs.YtemcipcijhkhjaaW.PrintMore
attribute [local go_sem] max2_int min2_int max_two min_two max_three min_three max_four min_four   -- for this text's walks alone
set_option linter.unusedVariables false
set_option linter.unusedSimpArgs false

/-! ### spec_MatBytes: function 20 -/
mutual
def spec_MatBytes.j0 : Nat → List Int → Int → List Int → Int → List Int → List Int → Int → Int → Bool → Int → Int → Int → Int → Int → Int → Option (List Int)
  | 0, _, _, _, _, _, _, _, _, _, _, _, _, _, _, _ => none
  | k + 1, x0, x1, x3, x4, x6, x17, x18, x19, x77, x235000, x235001, x236000, x236001, x237000, x237001 => if x77 = true then (some x17) else (if x1 = 0 then (none) else (if (wrap64 ((wrap64 ((x0.length : Int) / x1)) * x4)) > 4096 then (spec_MatBytes.j1 k x0 x1 x3 x4 x6 x17 x18 x19 (wrap64 ((x0.length : Int) / x1)) true x235000 x235001 x236000 x236001 x237000 x237001) else (spec_MatBytes.j1 k x0 x1 x3 x4 x6 x17 x18 x19 (wrap64 ((x0.length : Int) / x1)) (decide ((wrap64 ((wrap64 ((wrap64 ((x0.length : Int) / x1)) * x4)) * x1)) > 65536)) x235000 x235001 x236000 x236001 x237000 x237001)))
def spec_MatBytes.j1 : Nat → List Int → Int → List Int → Int → List Int → List Int → Int → Int → Int → Bool → Int → Int → Int → Int → Int → Int → Option (List Int)
  | 0, _, _, _, _, _, _, _, _, _, _, _, _, _, _, _, _ => none
  | k + 1, x0, x1, x3, x4, x6, x17, x18, x19, x21, x94, x235000, x235001, x236000, x236001, x237000, x237001 => if x94 = true then (some x17) else (spec_MatBytes.l0 k x0 x1 x3 x4 x6 x17 x18 x19 x21 0 x235000 x235001 x236000 x236001 x237000 x237001)
def spec_MatBytes.l0 : Nat → List Int → Int → List Int → Int → List Int → List Int → Int → Int → Int → Int → Int → Int → Int → Int → Int → Int → Option (List Int)
  | 0, _, _, _, _, _, _, _, _, _, _, _, _, _, _, _, _ => none
  | k + 1, x0, x1, x3, x4, x6, x17, x18, x19, x21, x22, x235000, x235001, x236000, x236001, x237000, x237001 => if x22 < x4 then (if 0 ≤ x22 then (if x22 < (x6.length : Int) then ((spec_l5In.f (rd x6 x22) (-1073741824) 1073741824).bind fun t248 => (if t248 = true then (spec_MatBytes.l0 k x0 x1 x3 x4 x6 x17 x18 x19 x21 (wrap64 (x22 + 1)) x235000 x235001 x236000 x236001 x237000 x237001) else (some x17))) else (none)) else (none)) else (spec_MatBytes.l1 k x0 x1 x3 x4 x6 x17 x18 x19 x21 0 x235000 x235001 x236000 x236001 x237000 x237001)
def spec_MatBytes.l1 : Nat → List Int → Int → List Int → Int → List Int → List Int → Int → Int → Int → Int → Int → Int → Int → Int → Int → Int → Option (List Int)
  | 0, _, _, _, _, _, _, _, _, _, _, _, _, _, _, _, _ => none
  | k + 1, x0, x1, x3, x4, x6, x17, x18, x19, x21, x23, x235000, x235001, x236000, x236001, x237000, x237001 => if x23 < x21 then (spec_MatBytes.l2 k x0 x1 x3 x4 x6 x17 x18 x19 x21 x23 0 x235000 x235001 x236000 x236001 x237000 x237001) else (some x17)
def spec_MatBytes.l2 : Nat → List Int → Int → List Int → Int → List Int → List Int → Int → Int → Int → Int → Int → Int → Int → Int → Int → Int → Int → Option (List Int)
  | 0, _, _, _, _, _, _, _, _, _, _, _, _, _, _, _, _, _ => none
  | k + 1, x0, x1, x3, x4, x6, x17, x18, x19, x21, x23, x24, x235000, x235001, x236000, x236001, x237000, x237001 => if x24 < x4 then (if 0 ≤ (wrap64 (x23 * x1)) then (if (wrap64 (x23 * x1)) ≤ (wrap64 ((wrap64 (x23 * x1)) + x1)) then (if (wrap64 ((wrap64 (x23 * x1)) + x1)) ≤ (x0.length : Int) then (if 0 ≤ (wrap64 (x24 * x1)) then (if (wrap64 (x24 * x1)) ≤ (wrap64 ((wrap64 (x24 * x1)) + x1)) then (if (wrap64 ((wrap64 (x24 * x1)) + x1)) ≤ (x3.length : Int) then ((spec_DotBytes.f k x235000 x235001 x236000 x236001 ((x0.take ((wrap64 ((wrap64 (x23 * x1)) + x1)) : Int).toNat).drop ((wrap64 (x23 * x1)) : Int).toNat) ((x3.take ((wrap64 ((wrap64 (x24 * x1)) + x1)) : Int).toNat).drop ((wrap64 (x24 * x1)) : Int).toNat)).bind fun t251 => (if 0 ≤ x24 then (if x24 < (x6.length : Int) then ((spec_l14Clip.f (wrap64 (t251 + (rd x6 x24))) (-1073741824) 1073741824).bind fun t253 => ((spec_Requant.f k t253 x18 x19 x237000 x237001).bind fun t254 => (if x17.length < 17592186044416 then (spec_MatBytes.l2 k x0 x1 x3 x4 x6 (x17 ++ [t254]) x18 x19 x21 x23 (wrap64 (x24 + 1)) x235000 x235001 x236000 x236001 x237000 x237001) else (none)))) else (none)) else (none))) else (none)) else (none)) else (none)) else (none)) else (none)) else (none)) else (spec_MatBytes.l1 k x0 x1 x3 x4 x6 x17 x18 x19 x21 (wrap64 (x23 + 1)) x235000 x235001 x236000 x236001 x237000 x237001)
end
def spec_MatBytes.f (k : Nat) (l0 : List Int) (a1 : Int) (a2_0 : Int) (a2_1 : Int) (l3 : List Int) (a4 : Int) (a5_0 : Int) (a5_1 : Int) (l6 : List Int) (a7_0 : Int) (a7_1 : Int) : Option (List Int) := (some (([] : List Int) : List Int)).bind fun y237 => ((spec_Factor.f k a2_0 a2_1 a5_0 a5_1 a7_0 a7_1).bind fun bt240 => (if bt240.2.2 = true then ((spec_l5In.f a1 1 4096).bind fun t243 => (if t243 = true then ((spec_l5In.f a4 1 4096).bind fun t244 => (if t244 = true then ((spec_l14Bytes.f k l0).bind fun t245 => (if t245 = true then ((spec_l14Bytes.f k l3).bind fun t246 => (if t246 = true then (if a1 = 0 then (none) else (if ((l0.length : Int) % a1) = 0 then (if (l3.length : Int) = (wrap64 (a1 * a4)) then (spec_MatBytes.j0 k l0 a1 l3 a4 l6 y237 bt240.1 bt240.2.1 ((l6.length : Int) != a4) a2_0 a2_1 a5_0 a5_1 a7_0 a7_1) else (spec_MatBytes.j0 k l0 a1 l3 a4 l6 y237 bt240.1 bt240.2.1 true a2_0 a2_1 a5_0 a5_1 a7_0 a7_1)) else (spec_MatBytes.j0 k l0 a1 l3 a4 l6 y237 bt240.1 bt240.2.1 true a2_0 a2_1 a5_0 a5_1 a7_0 a7_1))) else (spec_MatBytes.j0 k l0 a1 l3 a4 l6 y237 bt240.1 bt240.2.1 true a2_0 a2_1 a5_0 a5_1 a7_0 a7_1))) else (spec_MatBytes.j0 k l0 a1 l3 a4 l6 y237 bt240.1 bt240.2.1 true a2_0 a2_1 a5_0 a5_1 a7_0 a7_1))) else (spec_MatBytes.j0 k l0 a1 l3 a4 l6 y237 bt240.1 bt240.2.1 true a2_0 a2_1 a5_0 a5_1 a7_0 a7_1))) else (spec_MatBytes.j0 k l0 a1 l3 a4 l6 y237 bt240.1 bt240.2.1 true a2_0 a2_1 a5_0 a5_1 a7_0 a7_1))) else (spec_MatBytes.j0 k l0 a1 l3 a4 l6 y237 bt240.1 bt240.2.1 true a2_0 a2_1 a5_0 a5_1 a7_0 a7_1)))
theorem spec_MatBytes.mono_l : ∀ k, (∀ y0 y1 y2 y3 y4 y5 y6 y7 y8 y9 y10 y11 y12 y13 y14, LeO (spec_MatBytes.j0 k y0 y1 y2 y3 y4 y5 y6 y7 y8 y9 y10 y11 y12 y13 y14) (spec_MatBytes.j0 (k + 1) y0 y1 y2 y3 y4 y5 y6 y7 y8 y9 y10 y11 y12 y13 y14)) ∧ (∀ y0 y1 y2 y3 y4 y5 y6 y7 y8 y9 y10 y11 y12 y13 y14 y15, LeO (spec_MatBytes.j1 k y0 y1 y2 y3 y4 y5 y6 y7 y8 y9 y10 y11 y12 y13 y14 y15) (spec_MatBytes.j1 (k + 1) y0 y1 y2 y3 y4 y5 y6 y7 y8 y9 y10 y11 y12 y13 y14 y15)) ∧ (∀ y0 y1 y2 y3 y4 y5 y6 y7 y8 y9 y10 y11 y12 y13 y14 y15, LeO (spec_MatBytes.l0 k y0 y1 y2 y3 y4 y5 y6 y7 y8 y9 y10 y11 y12 y13 y14 y15) (spec_MatBytes.l0 (k + 1) y0 y1 y2 y3 y4 y5 y6 y7 y8 y9 y10 y11 y12 y13 y14 y15)) ∧ (∀ y0 y1 y2 y3 y4 y5 y6 y7 y8 y9 y10 y11 y12 y13 y14 y15, LeO (spec_MatBytes.l1 k y0 y1 y2 y3 y4 y5 y6 y7 y8 y9 y10 y11 y12 y13 y14 y15) (spec_MatBytes.l1 (k + 1) y0 y1 y2 y3 y4 y5 y6 y7 y8 y9 y10 y11 y12 y13 y14 y15)) ∧ (∀ y0 y1 y2 y3 y4 y5 y6 y7 y8 y9 y10 y11 y12 y13 y14 y15 y16, LeO (spec_MatBytes.l2 k y0 y1 y2 y3 y4 y5 y6 y7 y8 y9 y10 y11 y12 y13 y14 y15 y16) (spec_MatBytes.l2 (k + 1) y0 y1 y2 y3 y4 y5 y6 y7 y8 y9 y10 y11 y12 y13 y14 y15 y16))
  | 0 => ⟨fun _ _ _ _ _ _ _ _ _ _ _ _ _ _ _ r h => by simp [spec_MatBytes.j0] at h, fun _ _ _ _ _ _ _ _ _ _ _ _ _ _ _ _ r h => by simp [spec_MatBytes.j1] at h, fun _ _ _ _ _ _ _ _ _ _ _ _ _ _ _ _ r h => by simp [spec_MatBytes.l0] at h, fun _ _ _ _ _ _ _ _ _ _ _ _ _ _ _ _ r h => by simp [spec_MatBytes.l1] at h, fun _ _ _ _ _ _ _ _ _ _ _ _ _ _ _ _ _ r h => by simp [spec_MatBytes.l2] at h⟩
  | k + 1 => by
    obtain ⟨ih0, ih1, ih2, ih3, ih4⟩ := spec_MatBytes.mono_l k
    refine ⟨?_, ?_, ?_, ?_, ?_⟩
    · intro y0 y1 y2 y3 y4 y5 y6 y7 y8 y9 y10 y11 y12 y13 y14
      unfold spec_MatBytes.j0
      repeat' first
      | (with_reducible exact ih0 _ _ _ _ _ _ _ _ _ _ _ _ _ _ _)
      | (with_reducible exact ih1 _ _ _ _ _ _ _ _ _ _ _ _ _ _ _ _)
      | (with_reducible exact ih2 _ _ _ _ _ _ _ _ _ _ _ _ _ _ _ _)
      | (with_reducible exact ih3 _ _ _ _ _ _ _ _ _ _ _ _ _ _ _ _)
      | (with_reducible exact ih4 _ _ _ _ _ _ _ _ _ _ _ _ _ _ _ _ _)
      | (with_reducible exact spec_DotBytes.mono _ _ _ _ _ _ _)
      | (with_reducible exact spec_Factor.mono _ _ _ _ _ _ _)
      | (with_reducible exact spec_Requant.mono _ _ _ _ _ _)
      | (with_reducible exact spec_l14Bytes.mono _ _)
      | (with_reducible exact LeO.refl _)
      | (with_reducible exact LeO.none _)
      | (with_reducible refine LeO.ite ?_ ?_)
      | (with_reducible refine LeO.bind ?_ (fun _ => ?_))
      | exact ih0 _ _ _ _ _ _ _ _ _ _ _ _ _ _ _
      | exact ih1 _ _ _ _ _ _ _ _ _ _ _ _ _ _ _ _
      | exact ih2 _ _ _ _ _ _ _ _ _ _ _ _ _ _ _ _
      | exact ih3 _ _ _ _ _ _ _ _ _ _ _ _ _ _ _ _
      | exact ih4 _ _ _ _ _ _ _ _ _ _ _ _ _ _ _ _ _
      | exact spec_DotBytes.mono _ _ _ _ _ _ _
      | exact spec_Factor.mono _ _ _ _ _ _ _
      | exact spec_Requant.mono _ _ _ _ _ _
      | exact spec_l14Bytes.mono _ _
      | exact LeO.none _
      | refine LeO.ite ?_ ?_
      | refine LeO.bind ?_ (fun _ => ?_)
    · intro y0 y1 y2 y3 y4 y5 y6 y7 y8 y9 y10 y11 y12 y13 y14 y15
      unfold spec_MatBytes.j1
      repeat' first
      | (with_reducible exact ih0 _ _ _ _ _ _ _ _ _ _ _ _ _ _ _)
      | (with_reducible exact ih1 _ _ _ _ _ _ _ _ _ _ _ _ _ _ _ _)
      | (with_reducible exact ih2 _ _ _ _ _ _ _ _ _ _ _ _ _ _ _ _)
      | (with_reducible exact ih3 _ _ _ _ _ _ _ _ _ _ _ _ _ _ _ _)
      | (with_reducible exact ih4 _ _ _ _ _ _ _ _ _ _ _ _ _ _ _ _ _)
      | (with_reducible exact spec_DotBytes.mono _ _ _ _ _ _ _)
      | (with_reducible exact spec_Factor.mono _ _ _ _ _ _ _)
      | (with_reducible exact spec_Requant.mono _ _ _ _ _ _)
      | (with_reducible exact spec_l14Bytes.mono _ _)
      | (with_reducible exact LeO.refl _)
      | (with_reducible exact LeO.none _)
      | (with_reducible refine LeO.ite ?_ ?_)
      | (with_reducible refine LeO.bind ?_ (fun _ => ?_))
      | exact ih0 _ _ _ _ _ _ _ _ _ _ _ _ _ _ _
      | exact ih1 _ _ _ _ _ _ _ _ _ _ _ _ _ _ _ _
      | exact ih2 _ _ _ _ _ _ _ _ _ _ _ _ _ _ _ _
      | exact ih3 _ _ _ _ _ _ _ _ _ _ _ _ _ _ _ _
      | exact ih4 _ _ _ _ _ _ _ _ _ _ _ _ _ _ _ _ _
      | exact spec_DotBytes.mono _ _ _ _ _ _ _
      | exact spec_Factor.mono _ _ _ _ _ _ _
      | exact spec_Requant.mono _ _ _ _ _ _
      | exact spec_l14Bytes.mono _ _
      | exact LeO.none _
      | refine LeO.ite ?_ ?_
      | refine LeO.bind ?_ (fun _ => ?_)
    · intro y0 y1 y2 y3 y4 y5 y6 y7 y8 y9 y10 y11 y12 y13 y14 y15
      unfold spec_MatBytes.l0
      repeat' first
      | (with_reducible exact ih0 _ _ _ _ _ _ _ _ _ _ _ _ _ _ _)
      | (with_reducible exact ih1 _ _ _ _ _ _ _ _ _ _ _ _ _ _ _ _)
      | (with_reducible exact ih2 _ _ _ _ _ _ _ _ _ _ _ _ _ _ _ _)
      | (with_reducible exact ih3 _ _ _ _ _ _ _ _ _ _ _ _ _ _ _ _)
      | (with_reducible exact ih4 _ _ _ _ _ _ _ _ _ _ _ _ _ _ _ _ _)
      | (with_reducible exact spec_DotBytes.mono _ _ _ _ _ _ _)
      | (with_reducible exact spec_Factor.mono _ _ _ _ _ _ _)
      | (with_reducible exact spec_Requant.mono _ _ _ _ _ _)
      | (with_reducible exact spec_l14Bytes.mono _ _)
      | (with_reducible exact LeO.refl _)
      | (with_reducible exact LeO.none _)
      | (with_reducible refine LeO.ite ?_ ?_)
      | (with_reducible refine LeO.bind ?_ (fun _ => ?_))
      | exact ih0 _ _ _ _ _ _ _ _ _ _ _ _ _ _ _
      | exact ih1 _ _ _ _ _ _ _ _ _ _ _ _ _ _ _ _
      | exact ih2 _ _ _ _ _ _ _ _ _ _ _ _ _ _ _ _
      | exact ih3 _ _ _ _ _ _ _ _ _ _ _ _ _ _ _ _
      | exact ih4 _ _ _ _ _ _ _ _ _ _ _ _ _ _ _ _ _
      | exact spec_DotBytes.mono _ _ _ _ _ _ _
      | exact spec_Factor.mono _ _ _ _ _ _ _
      | exact spec_Requant.mono _ _ _ _ _ _
      | exact spec_l14Bytes.mono _ _
      | exact LeO.none _
      | refine LeO.ite ?_ ?_
      | refine LeO.bind ?_ (fun _ => ?_)
    · intro y0 y1 y2 y3 y4 y5 y6 y7 y8 y9 y10 y11 y12 y13 y14 y15
      unfold spec_MatBytes.l1
      repeat' first
      | (with_reducible exact ih0 _ _ _ _ _ _ _ _ _ _ _ _ _ _ _)
      | (with_reducible exact ih1 _ _ _ _ _ _ _ _ _ _ _ _ _ _ _ _)
      | (with_reducible exact ih2 _ _ _ _ _ _ _ _ _ _ _ _ _ _ _ _)
      | (with_reducible exact ih3 _ _ _ _ _ _ _ _ _ _ _ _ _ _ _ _)
      | (with_reducible exact ih4 _ _ _ _ _ _ _ _ _ _ _ _ _ _ _ _ _)
      | (with_reducible exact spec_DotBytes.mono _ _ _ _ _ _ _)
      | (with_reducible exact spec_Factor.mono _ _ _ _ _ _ _)
      | (with_reducible exact spec_Requant.mono _ _ _ _ _ _)
      | (with_reducible exact spec_l14Bytes.mono _ _)
      | (with_reducible exact LeO.refl _)
      | (with_reducible exact LeO.none _)
      | (with_reducible refine LeO.ite ?_ ?_)
      | (with_reducible refine LeO.bind ?_ (fun _ => ?_))
      | exact ih0 _ _ _ _ _ _ _ _ _ _ _ _ _ _ _
      | exact ih1 _ _ _ _ _ _ _ _ _ _ _ _ _ _ _ _
      | exact ih2 _ _ _ _ _ _ _ _ _ _ _ _ _ _ _ _
      | exact ih3 _ _ _ _ _ _ _ _ _ _ _ _ _ _ _ _
      | exact ih4 _ _ _ _ _ _ _ _ _ _ _ _ _ _ _ _ _
      | exact spec_DotBytes.mono _ _ _ _ _ _ _
      | exact spec_Factor.mono _ _ _ _ _ _ _
      | exact spec_Requant.mono _ _ _ _ _ _
      | exact spec_l14Bytes.mono _ _
      | exact LeO.none _
      | refine LeO.ite ?_ ?_
      | refine LeO.bind ?_ (fun _ => ?_)
    · intro y0 y1 y2 y3 y4 y5 y6 y7 y8 y9 y10 y11 y12 y13 y14 y15 y16
      unfold spec_MatBytes.l2
      repeat' first
      | (with_reducible exact ih0 _ _ _ _ _ _ _ _ _ _ _ _ _ _ _)
      | (with_reducible exact ih1 _ _ _ _ _ _ _ _ _ _ _ _ _ _ _ _)
      | (with_reducible exact ih2 _ _ _ _ _ _ _ _ _ _ _ _ _ _ _ _)
      | (with_reducible exact ih3 _ _ _ _ _ _ _ _ _ _ _ _ _ _ _ _)
      | (with_reducible exact ih4 _ _ _ _ _ _ _ _ _ _ _ _ _ _ _ _ _)
      | (with_reducible exact spec_DotBytes.mono _ _ _ _ _ _ _)
      | (with_reducible exact spec_Factor.mono _ _ _ _ _ _ _)
      | (with_reducible exact spec_Requant.mono _ _ _ _ _ _)
      | (with_reducible exact spec_l14Bytes.mono _ _)
      | (with_reducible exact LeO.refl _)
      | (with_reducible exact LeO.none _)
      | (with_reducible refine LeO.ite ?_ ?_)
      | (with_reducible refine LeO.bind ?_ (fun _ => ?_))
      | exact ih0 _ _ _ _ _ _ _ _ _ _ _ _ _ _ _
      | exact ih1 _ _ _ _ _ _ _ _ _ _ _ _ _ _ _ _
      | exact ih2 _ _ _ _ _ _ _ _ _ _ _ _ _ _ _ _
      | exact ih3 _ _ _ _ _ _ _ _ _ _ _ _ _ _ _ _
      | exact ih4 _ _ _ _ _ _ _ _ _ _ _ _ _ _ _ _ _
      | exact spec_DotBytes.mono _ _ _ _ _ _ _
      | exact spec_Factor.mono _ _ _ _ _ _ _
      | exact spec_Requant.mono _ _ _ _ _ _
      | exact spec_l14Bytes.mono _ _
      | exact LeO.none _
      | refine LeO.ite ?_ ?_
      | refine LeO.bind ?_ (fun _ => ?_)
theorem spec_MatBytes.mono : ∀ a0 a1 a2 a3 a4 a5 a6 a7 a8 a9 a10 k, LeO (spec_MatBytes.f k a0 a1 a2 a3 a4 a5 a6 a7 a8 a9 a10) (spec_MatBytes.f (k + 1) a0 a1 a2 a3 a4 a5 a6 a7 a8 a9 a10) := by
  intro a0 a1 a2 a3 a4 a5 a6 a7 a8 a9 a10 k
  obtain ⟨ih0, ih1, ih2, ih3, ih4⟩ := spec_MatBytes.mono_l k
  unfold spec_MatBytes.f
  repeat' first
      | (with_reducible exact ih0 _ _ _ _ _ _ _ _ _ _ _ _ _ _ _)
      | (with_reducible exact ih1 _ _ _ _ _ _ _ _ _ _ _ _ _ _ _ _)
      | (with_reducible exact ih2 _ _ _ _ _ _ _ _ _ _ _ _ _ _ _ _)
      | (with_reducible exact ih3 _ _ _ _ _ _ _ _ _ _ _ _ _ _ _ _)
      | (with_reducible exact ih4 _ _ _ _ _ _ _ _ _ _ _ _ _ _ _ _ _)
      | (with_reducible exact spec_DotBytes.mono _ _ _ _ _ _ _)
      | (with_reducible exact spec_Factor.mono _ _ _ _ _ _ _)
      | (with_reducible exact spec_Requant.mono _ _ _ _ _ _)
      | (with_reducible exact spec_l14Bytes.mono _ _)
      | (with_reducible exact LeO.refl _)
      | (with_reducible exact LeO.none _)
      | (with_reducible refine LeO.ite ?_ ?_)
      | (with_reducible refine LeO.bind ?_ (fun _ => ?_))
      | exact ih0 _ _ _ _ _ _ _ _ _ _ _ _ _ _ _
      | exact ih1 _ _ _ _ _ _ _ _ _ _ _ _ _ _ _ _
      | exact ih2 _ _ _ _ _ _ _ _ _ _ _ _ _ _ _ _
      | exact ih3 _ _ _ _ _ _ _ _ _ _ _ _ _ _ _ _
      | exact ih4 _ _ _ _ _ _ _ _ _ _ _ _ _ _ _ _ _
      | exact spec_DotBytes.mono _ _ _ _ _ _ _
      | exact spec_Factor.mono _ _ _ _ _ _ _
      | exact spec_Requant.mono _ _ _ _ _ _
      | exact spec_l14Bytes.mono _ _
      | exact LeO.none _
      | refine LeO.ite ?_ ?_
      | refine LeO.bind ?_ (fun _ => ?_)
def spec_MatBytes.T19 : Bool × List (List Nat × List Nat) := (true, [([], []), ([], []), ([], []), ([], []), ([], []), ([3, 4], [3, 4]), ([], []), ([], []), ([6, 7], [6, 7]), ([], []), ([8, 9], [8, 9]), ([2, 5, 10], [2, 5, 10]), ([], []), ([], []), ([], []), ([13, 14], [13, 14]), ([], []), ([], []), ([16, 17], [16, 17]), ([], []), ([18, 19], [18, 19]), ([12, 15, 20], [12, 15, 20]), ([0, 1, 11, 21], [0, 1, 11, 21]), ([], []), ([], []), ([23, 24], [23, 24]), ([25], [25]), ([22, 26], [22, 26]), ([27, 22, 0, 1, 2, 3, 4, 5, 6, 7, 8, 9, 10, 11, 12, 13, 14, 15, 16, 17, 18, 19, 20, 21, 22, 23, 24, 25, 26, 27], [27])])
def spec_MatBytes.B19 : List Nat := [0, 0, 0, 0, 0, 24, 0, 0, 192, 0, 960, 2044, 0, 0, 0, 24576, 0, 0, 196608, 0, 983040, 2093056, 4194303, 0, 0, 25165824, 58720256, 134217727, 268435455]
theorem spec_MatBytes.tab19 : rtab .any (opsOf Try.f20 19) = spec_MatBytes.T19 := by kernel_rfl
theorem spec_MatBytes.bits19 : waitsOk spec_MatBytes.T19.2 spec_MatBytes.B19 = true := by kernel_rfl
def spec_MatBytes.T20 : Bool × List (List Nat × List Nat) := (true, [([], []), ([], []), ([1], [1]), ([], []), ([], []), ([], []), ([2, 3, 4, 5, 2], [2, 3, 4, 5]), ([6], [6]), ([0, 7, 6], [0, 7]), ([8, 8, 0, 1, 2, 3, 4, 5, 6, 7, 8], [0, 8])])
def spec_MatBytes.B20 : List Nat := [0, 0, 2, 0, 0, 0, 62, 126, 255, 511]
theorem spec_MatBytes.tab20 : rtab .any (opsOf Try.f20 20) = spec_MatBytes.T20 := by kernel_rfl
theorem spec_MatBytes.bits20 : waitsOk spec_MatBytes.T20.2 spec_MatBytes.B20 = true := by kernel_rfl
set_option maxHeartbeats 8000000 in
set_option maxRecDepth 100000 in
theorem spec_MatBytes.calls (k : Nat) (A0 : Option Addr) (c0 : Nat) (l0 : List Int) (a1 : Int) (a2_0 : Int) (a2_1 : Int) (A3 : Option Addr) (c3 : Nat) (l3 : List Int) (a4 : Int) (a5_0 : Int) (a5_1 : Int) (A6 : Option Addr) (c6 : Nat) (l6 : List Int) (a7_0 : Int) (a7_1 : Int) (r : List Int) (w : World) (hr0 : Kd.C (Kd.int .i64) w A0 l0.length l0) (hc0 : l0.length ≤ c0) (hr3 : Kd.C (Kd.int .i64) w A3 l3.length l3) (hc3 : l3.length ≤ c3) (hr6 : Kd.C (Kd.int .i64) w A6 l6.length l6) (hc6 : l6.length ≤ c6) (h : spec_MatBytes.f k l0 a1 a2_0 a2_1 l3 a4 a5_0 a5_1 l6 a7_0 a7_1 = some r) :
    Calls Try.prog 20 #[.slice A0 l0.length c0, .int .i64 a1, .agg #[.int .i64 a2_0, .int .i64 a2_1], .slice A3 l3.length c3, .int .i64 a4, .agg #[.int .i64 a5_0, .int .i64 a5_1], .slice A6 l6.length c6, .agg #[.int .i64 a7_0, .int .i64 a7_1]] w fun e w' => ∃ v0_ : Value, e = .returned (v0_) ∧ Kd.R (Kd.int .i64) 3 w' w.heap.size (fun _ => True) v0_ r ∧ Below w.heap.size w w' := by
  have hu45 := Try.underlying45
  have HR0 := zK hr0
  have HC0 := zK hc0
  clear hr0 hc0
  have HR3 := zK hr3
  have HC3 := zK hc3
  clear hr3 hc3
  have HR6 := zK hr6
  have HC6 := zK hc6
  clear hr6 hc6
  have HB := zK (Below.refl w.heap.size w)
  have H : ((some (([] : List Int) : List Int)).bind fun y237 => ((spec_Factor.f k a2_0 a2_1 a5_0 a5_1 a7_0 a7_1).bind fun bt240 => (if bt240.2.2 = true then ((spec_l5In.f a1 1 4096).bind fun t243 => (if t243 = true then ((spec_l5In.f a4 1 4096).bind fun t244 => (if t244 = true then ((spec_l14Bytes.f k l0).bind fun t245 => (if t245 = true then ((spec_l14Bytes.f k l3).bind fun t246 => (if t246 = true then (if a1 = 0 then (none) else (if ((l0.length : Int) % a1) = 0 then (if (l3.length : Int) = (wrap64 (a1 * a4)) then (spec_MatBytes.j0 k l0 a1 l3 a4 l6 y237 bt240.1 bt240.2.1 ((l6.length : Int) != a4) a2_0 a2_1 a5_0 a5_1 a7_0 a7_1) else (spec_MatBytes.j0 k l0 a1 l3 a4 l6 y237 bt240.1 bt240.2.1 true a2_0 a2_1 a5_0 a5_1 a7_0 a7_1)) else (spec_MatBytes.j0 k l0 a1 l3 a4 l6 y237 bt240.1 bt240.2.1 true a2_0 a2_1 a5_0 a5_1 a7_0 a7_1))) else (spec_MatBytes.j0 k l0 a1 l3 a4 l6 y237 bt240.1 bt240.2.1 true a2_0 a2_1 a5_0 a5_1 a7_0 a7_1))) else (spec_MatBytes.j0 k l0 a1 l3 a4 l6 y237 bt240.1 bt240.2.1 true a2_0 a2_1 a5_0 a5_1 a7_0 a7_1))) else (spec_MatBytes.j0 k l0 a1 l3 a4 l6 y237 bt240.1 bt240.2.1 true a2_0 a2_1 a5_0 a5_1 a7_0 a7_1))) else (spec_MatBytes.j0 k l0 a1 l3 a4 l6 y237 bt240.1 bt240.2.1 true a2_0 a2_1 a5_0 a5_1 a7_0 a7_1))) else (spec_MatBytes.j0 k l0 a1 l3 a4 l6 y237 bt240.1 bt240.2.1 true a2_0 a2_1 a5_0 a5_1 a7_0 a7_1)))) = some r := h
  clear h
  obtain ⟨y237, hy237⟩ : ∃ y_ : List Int, y_ = (([] : List Int)) := ⟨_, rfl⟩
  replace H : ((spec_Factor.f k a2_0 a2_1 a5_0 a5_1 a7_0 a7_1).bind fun bt240 => (if bt240.2.2 = true then ((spec_l5In.f a1 1 4096).bind fun t243 => (if t243 = true then ((spec_l5In.f a4 1 4096).bind fun t244 => (if t244 = true then ((spec_l14Bytes.f k l0).bind fun t245 => (if t245 = true then ((spec_l14Bytes.f k l3).bind fun t246 => (if t246 = true then (if a1 = 0 then (none) else (if ((l0.length : Int) % a1) = 0 then (if (l3.length : Int) = (wrap64 (a1 * a4)) then (spec_MatBytes.j0 k l0 a1 l3 a4 l6 y237 bt240.1 bt240.2.1 ((l6.length : Int) != a4) a2_0 a2_1 a5_0 a5_1 a7_0 a7_1) else (spec_MatBytes.j0 k l0 a1 l3 a4 l6 y237 bt240.1 bt240.2.1 true a2_0 a2_1 a5_0 a5_1 a7_0 a7_1)) else (spec_MatBytes.j0 k l0 a1 l3 a4 l6 y237 bt240.1 bt240.2.1 true a2_0 a2_1 a5_0 a5_1 a7_0 a7_1))) else (spec_MatBytes.j0 k l0 a1 l3 a4 l6 y237 bt240.1 bt240.2.1 true a2_0 a2_1 a5_0 a5_1 a7_0 a7_1))) else (spec_MatBytes.j0 k l0 a1 l3 a4 l6 y237 bt240.1 bt240.2.1 true a2_0 a2_1 a5_0 a5_1 a7_0 a7_1))) else (spec_MatBytes.j0 k l0 a1 l3 a4 l6 y237 bt240.1 bt240.2.1 true a2_0 a2_1 a5_0 a5_1 a7_0 a7_1))) else (spec_MatBytes.j0 k l0 a1 l3 a4 l6 y237 bt240.1 bt240.2.1 true a2_0 a2_1 a5_0 a5_1 a7_0 a7_1))) else (spec_MatBytes.j0 k l0 a1 l3 a4 l6 y237 bt240.1 bt240.2.1 true a2_0 a2_1 a5_0 a5_1 a7_0 a7_1))) = some r := by first | (rw [hy237]; with_reducible exact H) | (have H2_ := (Option.bind_some _ _).symm.trans H; rw [hy237]; with_reducible exact H2_) | (have H2_ := (Option.bind_some _ _).symm.trans H; with_reducible exact H2_) | with_reducible exact H | (rw [hy237]; exact H) | exact H
  have Ny237 := zK hy237
  clear hy237
  replace H := Option.bind_eq_some_iff.mp H
  obtain ⟨⟨t240, t241, t242⟩, A90, H⟩ := H
  replace H : (if t242 = true then ((spec_l5In.f a1 1 4096).bind fun t243 => (if t243 = true then ((spec_l5In.f a4 1 4096).bind fun t244 => (if t244 = true then ((spec_l14Bytes.f k l0).bind fun t245 => (if t245 = true then ((spec_l14Bytes.f k l3).bind fun t246 => (if t246 = true then (if a1 = 0 then (none) else (if ((l0.length : Int) % a1) = 0 then (if (l3.length : Int) = (wrap64 (a1 * a4)) then (spec_MatBytes.j0 k l0 a1 l3 a4 l6 y237 t240 t241 ((l6.length : Int) != a4) a2_0 a2_1 a5_0 a5_1 a7_0 a7_1) else (spec_MatBytes.j0 k l0 a1 l3 a4 l6 y237 t240 t241 true a2_0 a2_1 a5_0 a5_1 a7_0 a7_1)) else (spec_MatBytes.j0 k l0 a1 l3 a4 l6 y237 t240 t241 true a2_0 a2_1 a5_0 a5_1 a7_0 a7_1))) else (spec_MatBytes.j0 k l0 a1 l3 a4 l6 y237 t240 t241 true a2_0 a2_1 a5_0 a5_1 a7_0 a7_1))) else (spec_MatBytes.j0 k l0 a1 l3 a4 l6 y237 t240 t241 true a2_0 a2_1 a5_0 a5_1 a7_0 a7_1))) else (spec_MatBytes.j0 k l0 a1 l3 a4 l6 y237 t240 t241 true a2_0 a2_1 a5_0 a5_1 a7_0 a7_1))) else (spec_MatBytes.j0 k l0 a1 l3 a4 l6 y237 t240 t241 true a2_0 a2_1 a5_0 a5_1 a7_0 a7_1))) else (spec_MatBytes.j0 k l0 a1 l3 a4 l6 y237 t240 t241 true a2_0 a2_1 a5_0 a5_1 a7_0 a7_1)) = some r := H
  have A9 := zK A90
  clear A90
  have HC10 := zK H
  clear H
  go_enter Try.func20, Try.ntmps20
  go_upto_region 3 with (first | ((with_reducible refine gate_dst (N := 10) rfl ?_); (try (refine gate_guard (by rfl) ?_; dsimp only)); refine box_event ?hg (N := 10) ?hd (cs := #[.int .i64 a2_0, .int .i64 a2_1]) (t := 45) ?hr ?_; (case hd => rfl); (case hg => rfl); (case hr => first | (go_simp; done) | (go_simp; rfl)); intro gb234 hg w11 hbox hb; have n0_ := zK (zp zB hb); have n1_ := zK (hbox); have n2_ := zK ((by rw [hg]; exact (zz zB) : w.heap.size ≤ gb234)); have n3_ := zK ((by rw [hg]; exact (zz zB) : w.heap.size ≤ gb234)); clear HB; have HB := n0_; have BK234 := n1_; have GW234 := n2_; have GE234 := n3_; clear n0_ n1_ n2_ n3_; clear hb hbox hg) | ((with_reducible refine gate_dst (N := 13) rfl ?_); (try (refine gate_guard (by rfl) ?_; dsimp only)); refine box_event ?hg (N := 13) ?hd (cs := #[.int .i64 a5_0, .int .i64 a5_1]) (t := 45) ?hr ?_; (case hd => rfl); (case hg => rfl); (case hr => first | (go_simp; done) | (go_simp; rfl)); intro gb235 hg w12 hbox hb; have n0_ := zK (zg (g := gb234) (o := .cells #[.int .i64 a2_0, .int .i64 a2_1] 45 (0, 0)) (by (with_reducible repeat (first | refine zn ?_ _ | refine zd ?_ | refine za ?_ _)); exact BK234.out) hb); have n1_ := zK (zp zB hb); have n2_ := zK (hbox); have n3_ := zK ((by rw [hg]; exact (zz zB) : w.heap.size ≤ gb235)); have n4_ := zK ((by rw [hg]; exact (zz zB) : w.heap.size ≤ gb235)); have n5_ := zK ((by rw [hg]; exact Nat.ne_of_lt (blk_lt (g := gb234) (o := .cells #[.int .i64 a2_0, .int .i64 a2_1] 45 (0, 0)) (by (with_reducible repeat (first | refine zn ?_ _ | refine zd ?_ | refine za ?_ _)); exact BK234.out)) : gb234 ≠ gb235)); have n6_ := zK ((by rw [hg]; exact Nat.ne_of_gt (blk_lt (g := gb234) (o := .cells #[.int .i64 a2_0, .int .i64 a2_1] 45 (0, 0)) (by (with_reducible repeat (first | refine zn ?_ _ | refine zd ?_ | refine za ?_ _)); exact BK234.out)) : gb235 ≠ gb234)); clear BK234; clear HB; have BK234 := n0_; have HB := n1_; have BK235 := n2_; have GW235 := n3_; have GE235 := n4_; have NB234_235 := n5_; have NB235_234 := n6_; clear n0_ n1_ n2_ n3_ n4_ n5_ n6_; clear hb hbox hg) | ((with_reducible refine gate_dst (N := 15) rfl ?_); (try (refine gate_guard (by rfl) ?_; dsimp only)); refine box_event ?hg (N := 15) ?hd (cs := #[.int .i64 a7_0, .int .i64 a7_1]) (t := 45) ?hr ?_; (case hd => rfl); (case hg => rfl); (case hr => first | (go_simp; done) | (go_simp; rfl)); intro gb236 hg w13 hbox hb; have n0_ := zK (zg (g := gb234) (o := .cells #[.int .i64 a2_0, .int .i64 a2_1] 45 (0, 0)) (by (with_reducible repeat (first | refine zn ?_ _ | refine zd ?_ | refine za ?_ _)); exact BK234.out) hb); have n1_ := zK (zg (g := gb235) (o := .cells #[.int .i64 a5_0, .int .i64 a5_1] 45 (0, 0)) (by (with_reducible repeat (first | refine zn ?_ _ | refine zd ?_ | refine za ?_ _)); exact BK235.out) hb); have n2_ := zK (zp zB hb); have n3_ := zK (hbox); have n4_ := zK ((by rw [hg]; exact (zz zB) : w.heap.size ≤ gb236)); have n5_ := zK ((by rw [hg]; exact (zz zB) : w.heap.size ≤ gb236)); have n6_ := zK ((by rw [hg]; exact Nat.ne_of_lt (blk_lt (g := gb234) (o := .cells #[.int .i64 a2_0, .int .i64 a2_1] 45 (0, 0)) (by (with_reducible repeat (first | refine zn ?_ _ | refine zd ?_ | refine za ?_ _)); exact BK234.out)) : gb234 ≠ gb236)); have n7_ := zK ((by rw [hg]; exact Nat.ne_of_gt (blk_lt (g := gb234) (o := .cells #[.int .i64 a2_0, .int .i64 a2_1] 45 (0, 0)) (by (with_reducible repeat (first | refine zn ?_ _ | refine zd ?_ | refine za ?_ _)); exact BK234.out)) : gb236 ≠ gb234)); have n8_ := zK ((by rw [hg]; exact Nat.ne_of_lt (blk_lt (g := gb235) (o := .cells #[.int .i64 a5_0, .int .i64 a5_1] 45 (0, 0)) (by (with_reducible repeat (first | refine zn ?_ _ | refine zd ?_ | refine za ?_ _)); exact BK235.out)) : gb235 ≠ gb236)); have n9_ := zK ((by rw [hg]; exact Nat.ne_of_gt (blk_lt (g := gb235) (o := .cells #[.int .i64 a5_0, .int .i64 a5_1] 45 (0, 0)) (by (with_reducible repeat (first | refine zn ?_ _ | refine zd ?_ | refine za ?_ _)); exact BK235.out)) : gb236 ≠ gb235)); clear BK234; clear BK235; clear HB; have BK234 := n0_; have BK235 := n1_; have HB := n2_; have BK236 := n3_; have GW236 := n4_; have GE236 := n5_; have NB234_236 := n6_; have NB236_234 := n7_; have NB235_236 := n8_; have NB236_235 := n9_; clear n0_ n1_ n2_ n3_ n4_ n5_ n6_ n7_ n8_ n9_; clear hb hbox hg) | ((with_reducible refine gate_dst (N := 26) rfl ?_); (try (refine gate_guard (by rfl) ?_; dsimp only)); refine Kd.R_lit (Kd.int .i64) _ 3 ?hg (N := 26) ?hd (xs := ([] : List Int)) (inner := []) (ok := fun _ => True) (okp := fun _ => True) ?hr ?hp (fun _ hk => hk) trivial (Below.refl _ _) (Nat.le_refl _) (by simp) ?_; (case hd => rfl); (case hg => rfl); (case hr => first | (go_simp; done) | (go_simp; rfl)); (case hp => exact (Reps.none _ _)); intro v238 w14 ho15 hb hg_ hnew_; clear hg_ hnew_; (first | rw [← Ny237.out] at ho15 | (simp only [Int.reduceToNat] at ho15; rw [← Ny237.out] at ho15)); have n0_ := zK (Kd.R_lower ho15 (zz zB)); have n1_ := zK (zg (g := gb234) (o := .cells #[.int .i64 a2_0, .int .i64 a2_1] 45 (0, 0)) (by (with_reducible repeat (first | refine zn ?_ _ | refine zd ?_ | refine za ?_ _)); exact BK234.out) hb); have n2_ := zK (zg (g := gb235) (o := .cells #[.int .i64 a5_0, .int .i64 a5_1] 45 (0, 0)) (by (with_reducible repeat (first | refine zn ?_ _ | refine zd ?_ | refine za ?_ _)); exact BK235.out) hb); have n3_ := zK (zg (g := gb236) (o := .cells #[.int .i64 a7_0, .int .i64 a7_1] 45 (0, 0)) (by (with_reducible repeat (first | refine zn ?_ _ | refine zd ?_ | refine za ?_ _)); exact BK236.out) hb); have n4_ := zK (zp zB hb); clear BK234; clear BK235; clear BK236; clear HB; have HO239 := n0_; have BK234 := n1_; have BK235 := n2_; have BK236 := n3_; have HB := n4_; clear n0_ n1_ n2_ n3_ n4_; clear hb ho15; have hnb16 := NB234_235.out; have hnc16 := NB235_234.out; have hnb17 := NB234_236.out; have hnc17 := NB236_234.out; have hcz18_0 : w14.cell? ⟨gb234, 0, none⟩ = some (.int .i64 a2_0) := (zc BK234.out 0).trans rfl; have hcz18_1 : w14.cell? ⟨gb234, 1, none⟩ = some (.int .i64 a2_1) := (zc BK234.out 1).trans rfl; have hfz18_0 := zf BK234.out 0; have hfz18_1 := zf BK234.out 1; have hnb19 := NB235_236.out; have hnc19 := NB236_235.out; have hcz20_0 : w14.cell? ⟨gb235, 0, none⟩ = some (.int .i64 a5_0) := (zc BK235.out 0).trans rfl; have hcz20_1 : w14.cell? ⟨gb235, 1, none⟩ = some (.int .i64 a5_1) := (zc BK235.out 1).trans rfl; have hfz20_0 := zf BK235.out 0; have hfz20_1 := zf BK235.out 1; have hcz21_0 : w14.cell? ⟨gb236, 0, none⟩ = some (.int .i64 a7_0) := (zc BK236.out 0).trans rfl; have hcz21_1 : w14.cell? ⟨gb236, 1, none⟩ = some (.int .i64 a7_1) := (zc BK236.out 1).trans rfl; have hfz21_0 := zf BK236.out 0; have hfz21_1 := zf BK236.out 1) | ((with_reducible refine gate_callee (f := 70) rfl ?_); refine goesL_ (some 31) rfl rfl Try.func70 (by kernel_rfl) rfl #[.agg #[.int .i64 a2_0, .int .i64 a2_1], .agg #[.int .i64 a5_0, .int .i64 a5_1], .agg #[.int .i64 a7_0, .int .i64 a7_1]] rfl zL ?_; (with_reducible refine (spec_Factor.calls k a2_0 a2_1 a5_0 a5_1 a7_0 a7_1 t240 t241 t242 _ A9.out).mono ?_); rintro e w22 ⟨rfl, hb⟩; refine ⟨_, rfl, ?_⟩; have n0_ := zK (Kd.R_below (by (with_reducible repeat (first | apply Kd.R_alloc | apply Kd.R_drewN | apply Kd.R_drew)); exact HO239.out) hb); have n1_ := zK (zg (g := gb234) (o := .cells #[.int .i64 a2_0, .int .i64 a2_1] 45 (0, 0)) (by (with_reducible repeat (first | refine zn ?_ _ | refine zd ?_ | refine za ?_ _)); exact BK234.out) hb); have n2_ := zK (zg (g := gb235) (o := .cells #[.int .i64 a5_0, .int .i64 a5_1] 45 (0, 0)) (by (with_reducible repeat (first | refine zn ?_ _ | refine zd ?_ | refine za ?_ _)); exact BK235.out) hb); have n3_ := zK (zg (g := gb236) (o := .cells #[.int .i64 a7_0, .int .i64 a7_1] 45 (0, 0)) (by (with_reducible repeat (first | refine zn ?_ _ | refine zd ?_ | refine za ?_ _)); exact BK236.out) hb); have n4_ := zK (zp zB hb); clear HO239; clear BK234; clear BK235; clear BK236; clear HB; have HO239 := n0_; have BK234 := n1_; have BK235 := n2_; have BK236 := n3_; have HB := n4_; clear n0_ n1_ n2_ n3_ n4_; (try clear hb); (try clear hb2); (try clear hk); (try clear hi)))
  (try simp only [Act.put, List.setIfInBounds_toArray, List.set_cons_zero, List.set_cons_succ])
  go_cut [77] (fun v77 wc => ∃ (kq : Nat) (x77_9 : Bool), v77 = .bool x77_9 ∧ Aside0 (spec_MatBytes.j0 kq l0 a1 l3 a4 l6 y237 t240 t241 x77_9 a2_0 a2_1 a5_0 a5_1 a7_0 a7_1 = some r) ∧ Aside0 (kq ≤ k) ∧ Aside0 (Kd.R (Kd.int .i64) 3 wc w.heap.size (fun _ => True) v238 y237) ∧ Aside0 (wc.heap[gb234]? = some (.cells #[.int .i64 a2_0, .int .i64 a2_1] 45 (0, 0))) ∧ Aside0 (wc.heap[gb235]? = some (.cells #[.int .i64 a5_0, .int .i64 a5_1] 45 (0, 0))) ∧ Aside0 (wc.heap[gb236]? = some (.cells #[.int .i64 a7_0, .int .i64 a7_1] 45 (0, 0))) ∧ Aside0 (Below w.heap.size w wc))
  case first =>
   have H := HC10.out
   clear HC10
   by_cases c23 : t242 = true
   rotate_left
   · replace c23 := Bool.eq_false_iff.mpr c23
     subst c23
     have H1 : (spec_MatBytes.j0 k l0 a1 l3 a4 l6 y237 t240 t241 true a2_0 a2_1 a5_0 a5_1 a7_0 a7_1) = some r := by rw [if_neg (show ¬ (false = true) by decide)] at H; exact H
     clear H
     have H := H1
     clear H1
     have H' := zK H
     clear H
     go_wp2
     go_meet
     case rel => exact ⟨_, (true), zR, H', ⟨by first | omega | exact Nat.le_refl _⟩, ⟨by (with_reducible repeat (first | apply Kd.R_alloc | apply Kd.R_drewN | apply Kd.R_drew)); exact HO239.out⟩, ⟨by (with_reducible repeat (first | refine zn ?_ _ | refine zd ?_ | refine za ?_ _)); exact BK234.out⟩, ⟨by (with_reducible repeat (first | refine zn ?_ _ | refine zd ?_ | refine za ?_ _)); exact BK235.out⟩, ⟨by (with_reducible repeat (first | refine zn ?_ _ | refine zd ?_ | refine za ?_ _)); exact BK236.out⟩, ⟨zB⟩⟩
   subst c23
   have H1 : ((spec_l5In.f a1 1 4096).bind fun t243 => (if t243 = true then ((spec_l5In.f a4 1 4096).bind fun t244 => (if t244 = true then ((spec_l14Bytes.f k l0).bind fun t245 => (if t245 = true then ((spec_l14Bytes.f k l3).bind fun t246 => (if t246 = true then (if a1 = 0 then (none) else (if ((l0.length : Int) % a1) = 0 then (if (l3.length : Int) = (wrap64 (a1 * a4)) then (spec_MatBytes.j0 k l0 a1 l3 a4 l6 y237 t240 t241 ((l6.length : Int) != a4) a2_0 a2_1 a5_0 a5_1 a7_0 a7_1) else (spec_MatBytes.j0 k l0 a1 l3 a4 l6 y237 t240 t241 true a2_0 a2_1 a5_0 a5_1 a7_0 a7_1)) else (spec_MatBytes.j0 k l0 a1 l3 a4 l6 y237 t240 t241 true a2_0 a2_1 a5_0 a5_1 a7_0 a7_1))) else (spec_MatBytes.j0 k l0 a1 l3 a4 l6 y237 t240 t241 true a2_0 a2_1 a5_0 a5_1 a7_0 a7_1))) else (spec_MatBytes.j0 k l0 a1 l3 a4 l6 y237 t240 t241 true a2_0 a2_1 a5_0 a5_1 a7_0 a7_1))) else (spec_MatBytes.j0 k l0 a1 l3 a4 l6 y237 t240 t241 true a2_0 a2_1 a5_0 a5_1 a7_0 a7_1))) else (spec_MatBytes.j0 k l0 a1 l3 a4 l6 y237 t240 t241 true a2_0 a2_1 a5_0 a5_1 a7_0 a7_1))) = some r := by rw [if_pos rfl] at H; exact H
   clear H
   have H := H1
   clear H1
   replace H := Option.bind_eq_some_iff.mp H
   obtain ⟨t243, A240, H⟩ := H
   replace H : (if t243 = true then ((spec_l5In.f a4 1 4096).bind fun t244 => (if t244 = true then ((spec_l14Bytes.f k l0).bind fun t245 => (if t245 = true then ((spec_l14Bytes.f k l3).bind fun t246 => (if t246 = true then (if a1 = 0 then (none) else (if ((l0.length : Int) % a1) = 0 then (if (l3.length : Int) = (wrap64 (a1 * a4)) then (spec_MatBytes.j0 k l0 a1 l3 a4 l6 y237 t240 t241 ((l6.length : Int) != a4) a2_0 a2_1 a5_0 a5_1 a7_0 a7_1) else (spec_MatBytes.j0 k l0 a1 l3 a4 l6 y237 t240 t241 true a2_0 a2_1 a5_0 a5_1 a7_0 a7_1)) else (spec_MatBytes.j0 k l0 a1 l3 a4 l6 y237 t240 t241 true a2_0 a2_1 a5_0 a5_1 a7_0 a7_1))) else (spec_MatBytes.j0 k l0 a1 l3 a4 l6 y237 t240 t241 true a2_0 a2_1 a5_0 a5_1 a7_0 a7_1))) else (spec_MatBytes.j0 k l0 a1 l3 a4 l6 y237 t240 t241 true a2_0 a2_1 a5_0 a5_1 a7_0 a7_1))) else (spec_MatBytes.j0 k l0 a1 l3 a4 l6 y237 t240 t241 true a2_0 a2_1 a5_0 a5_1 a7_0 a7_1))) else (spec_MatBytes.j0 k l0 a1 l3 a4 l6 y237 t240 t241 true a2_0 a2_1 a5_0 a5_1 a7_0 a7_1)) = some r := H
   have A24 := zK A240
   clear A240
   by_cases c25 : t243 = true
   rotate_left
   · replace c25 := Bool.eq_false_iff.mpr c25
     subst c25
     have H1 : (spec_MatBytes.j0 k l0 a1 l3 a4 l6 y237 t240 t241 true a2_0 a2_1 a5_0 a5_1 a7_0 a7_1) = some r := by rw [if_neg (show ¬ (false = true) by decide)] at H; exact H
     clear H
     have H := H1
     clear H1
     have H' := zK H
     clear H
     go_wp2_with (first | (go_at_call 71; (with_reducible refine (spec_l5In.calls a1 1 4096 false _ A24.out).mono ?_); rintro e w' ⟨rfl, ⟨nd, rfl⟩⟩))
     go_meet
     case rel => exact ⟨_, (true), zR, H', ⟨by first | omega | exact Nat.le_refl _⟩, ⟨by (with_reducible repeat (first | apply Kd.R_alloc | apply Kd.R_drewN | apply Kd.R_drew)); exact HO239.out⟩, ⟨by (with_reducible repeat (first | refine zn ?_ _ | refine zd ?_ | refine za ?_ _)); exact BK234.out⟩, ⟨by (with_reducible repeat (first | refine zn ?_ _ | refine zd ?_ | refine za ?_ _)); exact BK235.out⟩, ⟨by (with_reducible repeat (first | refine zn ?_ _ | refine zd ?_ | refine za ?_ _)); exact BK236.out⟩, ⟨zB⟩⟩
   subst c25
   have H1 : ((spec_l5In.f a4 1 4096).bind fun t244 => (if t244 = true then ((spec_l14Bytes.f k l0).bind fun t245 => (if t245 = true then ((spec_l14Bytes.f k l3).bind fun t246 => (if t246 = true then (if a1 = 0 then (none) else (if ((l0.length : Int) % a1) = 0 then (if (l3.length : Int) = (wrap64 (a1 * a4)) then (spec_MatBytes.j0 k l0 a1 l3 a4 l6 y237 t240 t241 ((l6.length : Int) != a4) a2_0 a2_1 a5_0 a5_1 a7_0 a7_1) else (spec_MatBytes.j0 k l0 a1 l3 a4 l6 y237 t240 t241 true a2_0 a2_1 a5_0 a5_1 a7_0 a7_1)) else (spec_MatBytes.j0 k l0 a1 l3 a4 l6 y237 t240 t241 true a2_0 a2_1 a5_0 a5_1 a7_0 a7_1))) else (spec_MatBytes.j0 k l0 a1 l3 a4 l6 y237 t240 t241 true a2_0 a2_1 a5_0 a5_1 a7_0 a7_1))) else (spec_MatBytes.j0 k l0 a1 l3 a4 l6 y237 t240 t241 true a2_0 a2_1 a5_0 a5_1 a7_0 a7_1))) else (spec_MatBytes.j0 k l0 a1 l3 a4 l6 y237 t240 t241 true a2_0 a2_1 a5_0 a5_1 a7_0 a7_1))) = some r := by rw [if_pos rfl] at H; exact H
   clear H
   have H := H1
   clear H1
   replace H := Option.bind_eq_some_iff.mp H
   obtain ⟨t244, A260, H⟩ := H
   replace H : (if t244 = true then ((spec_l14Bytes.f k l0).bind fun t245 => (if t245 = true then ((spec_l14Bytes.f k l3).bind fun t246 => (if t246 = true then (if a1 = 0 then (none) else (if ((l0.length : Int) % a1) = 0 then (if (l3.length : Int) = (wrap64 (a1 * a4)) then (spec_MatBytes.j0 k l0 a1 l3 a4 l6 y237 t240 t241 ((l6.length : Int) != a4) a2_0 a2_1 a5_0 a5_1 a7_0 a7_1) else (spec_MatBytes.j0 k l0 a1 l3 a4 l6 y237 t240 t241 true a2_0 a2_1 a5_0 a5_1 a7_0 a7_1)) else (spec_MatBytes.j0 k l0 a1 l3 a4 l6 y237 t240 t241 true a2_0 a2_1 a5_0 a5_1 a7_0 a7_1))) else (spec_MatBytes.j0 k l0 a1 l3 a4 l6 y237 t240 t241 true a2_0 a2_1 a5_0 a5_1 a7_0 a7_1))) else (spec_MatBytes.j0 k l0 a1 l3 a4 l6 y237 t240 t241 true a2_0 a2_1 a5_0 a5_1 a7_0 a7_1))) else (spec_MatBytes.j0 k l0 a1 l3 a4 l6 y237 t240 t241 true a2_0 a2_1 a5_0 a5_1 a7_0 a7_1)) = some r := H
   have A26 := zK A260
   clear A260
   by_cases c27 : t244 = true
   rotate_left
   · replace c27 := Bool.eq_false_iff.mpr c27
     subst c27
     have H1 : (spec_MatBytes.j0 k l0 a1 l3 a4 l6 y237 t240 t241 true a2_0 a2_1 a5_0 a5_1 a7_0 a7_1) = some r := by rw [if_neg (show ¬ (false = true) by decide)] at H; exact H
     clear H
     have H := H1
     clear H1
     have H' := zK H
     clear H
     go_wp2_with (first | (go_at_call 71; (with_reducible refine (spec_l5In.calls a1 1 4096 true _ A24.out).mono ?_); rintro e w' ⟨rfl, ⟨nd, rfl⟩⟩) | (go_at_call 71; (with_reducible refine (spec_l5In.calls a4 1 4096 false _ A26.out).mono ?_); rintro e w' ⟨rfl, ⟨nd, rfl⟩⟩))
     go_meet
     case rel => exact ⟨_, (true), zR, H', ⟨by first | omega | exact Nat.le_refl _⟩, ⟨by (with_reducible repeat (first | apply Kd.R_alloc | apply Kd.R_drewN | apply Kd.R_drew)); exact HO239.out⟩, ⟨by (with_reducible repeat (first | refine zn ?_ _ | refine zd ?_ | refine za ?_ _)); exact BK234.out⟩, ⟨by (with_reducible repeat (first | refine zn ?_ _ | refine zd ?_ | refine za ?_ _)); exact BK235.out⟩, ⟨by (with_reducible repeat (first | refine zn ?_ _ | refine zd ?_ | refine za ?_ _)); exact BK236.out⟩, ⟨zB⟩⟩
   subst c27
   have H1 : ((spec_l14Bytes.f k l0).bind fun t245 => (if t245 = true then ((spec_l14Bytes.f k l3).bind fun t246 => (if t246 = true then (if a1 = 0 then (none) else (if ((l0.length : Int) % a1) = 0 then (if (l3.length : Int) = (wrap64 (a1 * a4)) then (spec_MatBytes.j0 k l0 a1 l3 a4 l6 y237 t240 t241 ((l6.length : Int) != a4) a2_0 a2_1 a5_0 a5_1 a7_0 a7_1) else (spec_MatBytes.j0 k l0 a1 l3 a4 l6 y237 t240 t241 true a2_0 a2_1 a5_0 a5_1 a7_0 a7_1)) else (spec_MatBytes.j0 k l0 a1 l3 a4 l6 y237 t240 t241 true a2_0 a2_1 a5_0 a5_1 a7_0 a7_1))) else (spec_MatBytes.j0 k l0 a1 l3 a4 l6 y237 t240 t241 true a2_0 a2_1 a5_0 a5_1 a7_0 a7_1))) else (spec_MatBytes.j0 k l0 a1 l3 a4 l6 y237 t240 t241 true a2_0 a2_1 a5_0 a5_1 a7_0 a7_1))) = some r := by rw [if_pos rfl] at H; exact H
   clear H
   have H := H1
   clear H1
   replace H := Option.bind_eq_some_iff.mp H
   obtain ⟨t245, A280, H⟩ := H
   replace H : (if t245 = true then ((spec_l14Bytes.f k l3).bind fun t246 => (if t246 = true then (if a1 = 0 then (none) else (if ((l0.length : Int) % a1) = 0 then (if (l3.length : Int) = (wrap64 (a1 * a4)) then (spec_MatBytes.j0 k l0 a1 l3 a4 l6 y237 t240 t241 ((l6.length : Int) != a4) a2_0 a2_1 a5_0 a5_1 a7_0 a7_1) else (spec_MatBytes.j0 k l0 a1 l3 a4 l6 y237 t240 t241 true a2_0 a2_1 a5_0 a5_1 a7_0 a7_1)) else (spec_MatBytes.j0 k l0 a1 l3 a4 l6 y237 t240 t241 true a2_0 a2_1 a5_0 a5_1 a7_0 a7_1))) else (spec_MatBytes.j0 k l0 a1 l3 a4 l6 y237 t240 t241 true a2_0 a2_1 a5_0 a5_1 a7_0 a7_1))) else (spec_MatBytes.j0 k l0 a1 l3 a4 l6 y237 t240 t241 true a2_0 a2_1 a5_0 a5_1 a7_0 a7_1)) = some r := H
   have A28 := zK A280
   clear A280
   by_cases c29 : t245 = true
   rotate_left
   · replace c29 := Bool.eq_false_iff.mpr c29
     subst c29
     have H1 : (spec_MatBytes.j0 k l0 a1 l3 a4 l6 y237 t240 t241 true a2_0 a2_1 a5_0 a5_1 a7_0 a7_1) = some r := by rw [if_neg (show ¬ (false = true) by decide)] at H; exact H
     clear H
     have H := H1
     clear H1
     have H' := zK H
     clear H
     go_wp2_with (first | (go_at_call 71; (with_reducible refine (spec_l5In.calls a1 1 4096 true _ A24.out).mono ?_); rintro e w' ⟨rfl, ⟨nd, rfl⟩⟩) | (go_at_call 71; (with_reducible refine (spec_l5In.calls a4 1 4096 true _ A26.out).mono ?_); rintro e w' ⟨rfl, ⟨nd, rfl⟩⟩) | (go_at_call 72; (with_reducible refine (spec_l14Bytes.calls k _ _ l0 false _ ?side1 ?side2 A28.out).mono ?_); (case side1 => repeat (first | exact (Kd.C_below HR0.out zB) | (with_reducible refine Kd.C_alloc ?_ _) | (with_reducible refine Kd.C_drewN ?_ _) | (with_reducible refine Kd.C_drew ?_))); (case side2 => exact HC0.out); rintro e w' ⟨rfl, ⟨nd, rfl⟩⟩))
     go_meet
     case rel => exact ⟨_, (true), zR, H', ⟨by first | omega | exact Nat.le_refl _⟩, ⟨by (with_reducible repeat (first | apply Kd.R_alloc | apply Kd.R_drewN | apply Kd.R_drew)); exact HO239.out⟩, ⟨by (with_reducible repeat (first | refine zn ?_ _ | refine zd ?_ | refine za ?_ _)); exact BK234.out⟩, ⟨by (with_reducible repeat (first | refine zn ?_ _ | refine zd ?_ | refine za ?_ _)); exact BK235.out⟩, ⟨by (with_reducible repeat (first | refine zn ?_ _ | refine zd ?_ | refine za ?_ _)); exact BK236.out⟩, ⟨zB⟩⟩
   subst c29
   have H1 : ((spec_l14Bytes.f k l3).bind fun t246 => (if t246 = true then (if a1 = 0 then (none) else (if ((l0.length : Int) % a1) = 0 then (if (l3.length : Int) = (wrap64 (a1 * a4)) then (spec_MatBytes.j0 k l0 a1 l3 a4 l6 y237 t240 t241 ((l6.length : Int) != a4) a2_0 a2_1 a5_0 a5_1 a7_0 a7_1) else (spec_MatBytes.j0 k l0 a1 l3 a4 l6 y237 t240 t241 true a2_0 a2_1 a5_0 a5_1 a7_0 a7_1)) else (spec_MatBytes.j0 k l0 a1 l3 a4 l6 y237 t240 t241 true a2_0 a2_1 a5_0 a5_1 a7_0 a7_1))) else (spec_MatBytes.j0 k l0 a1 l3 a4 l6 y237 t240 t241 true a2_0 a2_1 a5_0 a5_1 a7_0 a7_1))) = some r := by rw [if_pos rfl] at H; exact H
   clear H
   have H := H1
   clear H1
   replace H := Option.bind_eq_some_iff.mp H
   obtain ⟨t246, A300, H⟩ := H
   replace H : (if t246 = true then (if a1 = 0 then (none) else (if ((l0.length : Int) % a1) = 0 then (if (l3.length : Int) = (wrap64 (a1 * a4)) then (spec_MatBytes.j0 k l0 a1 l3 a4 l6 y237 t240 t241 ((l6.length : Int) != a4) a2_0 a2_1 a5_0 a5_1 a7_0 a7_1) else (spec_MatBytes.j0 k l0 a1 l3 a4 l6 y237 t240 t241 true a2_0 a2_1 a5_0 a5_1 a7_0 a7_1)) else (spec_MatBytes.j0 k l0 a1 l3 a4 l6 y237 t240 t241 true a2_0 a2_1 a5_0 a5_1 a7_0 a7_1))) else (spec_MatBytes.j0 k l0 a1 l3 a4 l6 y237 t240 t241 true a2_0 a2_1 a5_0 a5_1 a7_0 a7_1)) = some r := H
   have A30 := zK A300
   clear A300
   by_cases c31 : t246 = true
   rotate_left
   · replace c31 := Bool.eq_false_iff.mpr c31
     subst c31
     have H1 : (spec_MatBytes.j0 k l0 a1 l3 a4 l6 y237 t240 t241 true a2_0 a2_1 a5_0 a5_1 a7_0 a7_1) = some r := by rw [if_neg (show ¬ (false = true) by decide)] at H; exact H
     clear H
     have H := H1
     clear H1
     have H' := zK H
     clear H
     go_wp2_with (first | (go_at_call 71; (with_reducible refine (spec_l5In.calls a1 1 4096 true _ A24.out).mono ?_); rintro e w' ⟨rfl, ⟨nd, rfl⟩⟩) | (go_at_call 71; (with_reducible refine (spec_l5In.calls a4 1 4096 true _ A26.out).mono ?_); rintro e w' ⟨rfl, ⟨nd, rfl⟩⟩) | (go_at_call 72; (with_reducible refine (spec_l14Bytes.calls k _ _ l0 true _ ?side1 ?side2 A28.out).mono ?_); (case side1 => repeat (first | exact (Kd.C_below HR0.out zB) | (with_reducible refine Kd.C_alloc ?_ _) | (with_reducible refine Kd.C_drewN ?_ _) | (with_reducible refine Kd.C_drew ?_))); (case side2 => exact HC0.out); rintro e w' ⟨rfl, ⟨nd, rfl⟩⟩) | (go_at_call 72; (with_reducible refine (spec_l14Bytes.calls k _ _ l3 false _ ?side1 ?side2 A30.out).mono ?_); (case side1 => repeat (first | exact (Kd.C_below HR3.out zB) | (with_reducible refine Kd.C_alloc ?_ _) | (with_reducible refine Kd.C_drewN ?_ _) | (with_reducible refine Kd.C_drew ?_))); (case side2 => exact HC3.out); rintro e w' ⟨rfl, ⟨nd, rfl⟩⟩))
     go_meet
     case rel => exact ⟨_, (true), zR, H', ⟨by first | omega | exact Nat.le_refl _⟩, ⟨by (with_reducible repeat (first | apply Kd.R_alloc | apply Kd.R_drewN | apply Kd.R_drew)); exact HO239.out⟩, ⟨by (with_reducible repeat (first | refine zn ?_ _ | refine zd ?_ | refine za ?_ _)); exact BK234.out⟩, ⟨by (with_reducible repeat (first | refine zn ?_ _ | refine zd ?_ | refine za ?_ _)); exact BK235.out⟩, ⟨by (with_reducible repeat (first | refine zn ?_ _ | refine zd ?_ | refine za ?_ _)); exact BK236.out⟩, ⟨zB⟩⟩
   subst c31
   have H1 : (if a1 = 0 then (none) else (if ((l0.length : Int) % a1) = 0 then (if (l3.length : Int) = (wrap64 (a1 * a4)) then (spec_MatBytes.j0 k l0 a1 l3 a4 l6 y237 t240 t241 ((l6.length : Int) != a4) a2_0 a2_1 a5_0 a5_1 a7_0 a7_1) else (spec_MatBytes.j0 k l0 a1 l3 a4 l6 y237 t240 t241 true a2_0 a2_1 a5_0 a5_1 a7_0 a7_1)) else (spec_MatBytes.j0 k l0 a1 l3 a4 l6 y237 t240 t241 true a2_0 a2_1 a5_0 a5_1 a7_0 a7_1))) = some r := by rw [if_pos rfl] at H; exact H
   clear H
   have H := H1
   clear H1
   by_cases c32 : a1 = 0
   · rw [if_pos c32] at H
     exact absurd H (by simp)
   rw [if_neg c32] at H
   have c32b0 : (a1 == 0) = false := beq_eq_false_iff_ne.mpr c32
   have c32b1 : (a1 != 0) = true := bne_iff_ne.mpr c32
   (first | rw [c32b0] | (simp only [i64_w, i32_w]; rw [c32b0]) | skip)
   by_cases c33 : ((l0.length : Int) % a1) = 0
   rotate_left
   · rw [if_neg c33] at H
     have c33b0 : (((l0.length : Int) % a1) == 0) = false := beq_eq_false_iff_ne.mpr c33
     have c33b1 : (((l0.length : Int) % a1) != 0) = true := bne_iff_ne.mpr c33
     have H' := zK H
     clear H
     go_wp2_with (first | (go_at_call 71; (with_reducible refine (spec_l5In.calls a1 1 4096 true _ A24.out).mono ?_); rintro e w' ⟨rfl, ⟨nd, rfl⟩⟩) | (go_at_call 71; (with_reducible refine (spec_l5In.calls a4 1 4096 true _ A26.out).mono ?_); rintro e w' ⟨rfl, ⟨nd, rfl⟩⟩) | (go_at_call 72; (with_reducible refine (spec_l14Bytes.calls k _ _ l0 true _ ?side1 ?side2 A28.out).mono ?_); (case side1 => repeat (first | exact (Kd.C_below HR0.out zB) | (with_reducible refine Kd.C_alloc ?_ _) | (with_reducible refine Kd.C_drewN ?_ _) | (with_reducible refine Kd.C_drew ?_))); (case side2 => exact HC0.out); rintro e w' ⟨rfl, ⟨nd, rfl⟩⟩) | (go_at_call 72; (with_reducible refine (spec_l14Bytes.calls k _ _ l3 true _ ?side1 ?side2 A30.out).mono ?_); (case side1 => repeat (first | exact (Kd.C_below HR3.out zB) | (with_reducible refine Kd.C_alloc ?_ _) | (with_reducible refine Kd.C_drewN ?_ _) | (with_reducible refine Kd.C_drew ?_))); (case side2 => exact HC3.out); rintro e w' ⟨rfl, ⟨nd, rfl⟩⟩))
     go_meet
     case rel => exact ⟨_, (true), zR, H', ⟨by first | omega | exact Nat.le_refl _⟩, ⟨by (with_reducible repeat (first | apply Kd.R_alloc | apply Kd.R_drewN | apply Kd.R_drew)); exact HO239.out⟩, ⟨by (with_reducible repeat (first | refine zn ?_ _ | refine zd ?_ | refine za ?_ _)); exact BK234.out⟩, ⟨by (with_reducible repeat (first | refine zn ?_ _ | refine zd ?_ | refine za ?_ _)); exact BK235.out⟩, ⟨by (with_reducible repeat (first | refine zn ?_ _ | refine zd ?_ | refine za ?_ _)); exact BK236.out⟩, ⟨zB⟩⟩
   rw [if_pos c33] at H
   have c33b0 : (((l0.length : Int) % a1) == 0) = true := beq_iff_eq.mpr c33
   have c33b1 : (((l0.length : Int) % a1) != 0) = false := bne_eq_false_iff_eq.mpr c33
   clear c33
   by_cases c34 : (l3.length : Int) = (wrap64 (a1 * a4))
   rotate_left
   · rw [if_neg c34] at H
     have c34b0 : ((l3.length : Int) == (wrap64 (a1 * a4))) = false := beq_eq_false_iff_ne.mpr c34
     have c34b1 : ((l3.length : Int) != (wrap64 (a1 * a4))) = true := bne_iff_ne.mpr c34
     have H' := zK H
     clear H
     go_wp2_with (first | (go_at_call 71; (with_reducible refine (spec_l5In.calls a1 1 4096 true _ A24.out).mono ?_); rintro e w' ⟨rfl, ⟨nd, rfl⟩⟩) | (go_at_call 71; (with_reducible refine (spec_l5In.calls a4 1 4096 true _ A26.out).mono ?_); rintro e w' ⟨rfl, ⟨nd, rfl⟩⟩) | (go_at_call 72; (with_reducible refine (spec_l14Bytes.calls k _ _ l0 true _ ?side1 ?side2 A28.out).mono ?_); (case side1 => repeat (first | exact (Kd.C_below HR0.out zB) | (with_reducible refine Kd.C_alloc ?_ _) | (with_reducible refine Kd.C_drewN ?_ _) | (with_reducible refine Kd.C_drew ?_))); (case side2 => exact HC0.out); rintro e w' ⟨rfl, ⟨nd, rfl⟩⟩) | (go_at_call 72; (with_reducible refine (spec_l14Bytes.calls k _ _ l3 true _ ?side1 ?side2 A30.out).mono ?_); (case side1 => repeat (first | exact (Kd.C_below HR3.out zB) | (with_reducible refine Kd.C_alloc ?_ _) | (with_reducible refine Kd.C_drewN ?_ _) | (with_reducible refine Kd.C_drew ?_))); (case side2 => exact HC3.out); rintro e w' ⟨rfl, ⟨nd, rfl⟩⟩))
     go_meet
     case rel => exact ⟨_, (true), zR, H', ⟨by first | omega | exact Nat.le_refl _⟩, ⟨by (with_reducible repeat (first | apply Kd.R_alloc | apply Kd.R_drewN | apply Kd.R_drew)); exact HO239.out⟩, ⟨by (with_reducible repeat (first | refine zn ?_ _ | refine zd ?_ | refine za ?_ _)); exact BK234.out⟩, ⟨by (with_reducible repeat (first | refine zn ?_ _ | refine zd ?_ | refine za ?_ _)); exact BK235.out⟩, ⟨by (with_reducible repeat (first | refine zn ?_ _ | refine zd ?_ | refine za ?_ _)); exact BK236.out⟩, ⟨zB⟩⟩
   rw [if_pos c34] at H
   have c34b0 : ((l3.length : Int) == (wrap64 (a1 * a4))) = true := beq_iff_eq.mpr c34
   have c34b1 : ((l3.length : Int) != (wrap64 (a1 * a4))) = false := bne_eq_false_iff_eq.mpr c34
   clear c34
   have H' := zK H
   clear H
   go_wp2_with (first | (go_at_call 71; (with_reducible refine (spec_l5In.calls a1 1 4096 true _ A24.out).mono ?_); rintro e w' ⟨rfl, ⟨nd, rfl⟩⟩) | (go_at_call 71; (with_reducible refine (spec_l5In.calls a4 1 4096 true _ A26.out).mono ?_); rintro e w' ⟨rfl, ⟨nd, rfl⟩⟩) | (go_at_call 72; (with_reducible refine (spec_l14Bytes.calls k _ _ l0 true _ ?side1 ?side2 A28.out).mono ?_); (case side1 => repeat (first | exact (Kd.C_below HR0.out zB) | (with_reducible refine Kd.C_alloc ?_ _) | (with_reducible refine Kd.C_drewN ?_ _) | (with_reducible refine Kd.C_drew ?_))); (case side2 => exact HC0.out); rintro e w' ⟨rfl, ⟨nd, rfl⟩⟩) | (go_at_call 72; (with_reducible refine (spec_l14Bytes.calls k _ _ l3 true _ ?side1 ?side2 A30.out).mono ?_); (case side1 => repeat (first | exact (Kd.C_below HR3.out zB) | (with_reducible refine Kd.C_alloc ?_ _) | (with_reducible refine Kd.C_drewN ?_ _) | (with_reducible refine Kd.C_drew ?_))); (case side2 => exact HC3.out); rintro e w' ⟨rfl, ⟨nd, rfl⟩⟩))
   go_meet
   case rel => exact ⟨_, (((l6.length : Int) != a4)), zR, H', ⟨by first | omega | exact Nat.le_refl _⟩, ⟨by (with_reducible repeat (first | apply Kd.R_alloc | apply Kd.R_drewN | apply Kd.R_drew)); exact HO239.out⟩, ⟨by (with_reducible repeat (first | refine zn ?_ _ | refine zd ?_ | refine za ?_ _)); exact BK234.out⟩, ⟨by (with_reducible repeat (first | refine zn ?_ _ | refine zd ?_ | refine za ?_ _)); exact BK235.out⟩, ⟨by (with_reducible repeat (first | refine zn ?_ _ | refine zd ?_ | refine za ?_ _)); exact BK236.out⟩, ⟨zB⟩⟩
  case rest =>
   clear HC10
   try clear c1
   try clear c2
   try clear p2
   try clear c3
   try clear c6
   try clear p6
   try clear c7
   try clear c16
   try clear c17
   try clear c19
   try clear c20
   try clear c23
   try clear c25
   try clear c27
   try clear c29
   try clear c31
   try clear c32
   try clear c32b0
   try clear c32b1
   try clear c33
   try clear c33b0
   try clear c33b1
   try clear c34
   try clear c34b0
   try clear c34b1
   try clear hcz18_0
   try clear hcz18_1
   try clear hcz20_0
   try clear hcz20_1
   try clear hcz21_0
   try clear hcz21_1
   try clear hfz18_0
   try clear hfz18_1
   try clear hfz20_0
   try clear hfz20_1
   try clear hfz21_0
   try clear hfz21_1
   obtain ⟨kq, x77_9, rfl, HA, HJ9, HO_17, BK234, BK235, BK236, HB⟩ := hcut
   cases kq with
   | zero => exact absurd HA.out (by simp [spec_MatBytes.j0])
   | succ kj9 =>
    have H := HA.out
    clear HA
    simp only [spec_MatBytes.j0] at H
    by_cases c35 : x77_9 = true
    · subst c35
      have H1 : (some y237) = some r := by rw [if_pos rfl] at H; exact H
      clear H
      have H := H1
      clear H1
      obtain rfl := Option.some.inj H
      go_wp2
      go_ret
      exact ⟨_, by first | rfl | (simp [errW_none, errW_some] <;> rfl) | (simp [*, errW_none, errW_some] <;> rfl), by (with_reducible repeat (first | apply Kd.R_alloc | apply Kd.R_drewN | apply Kd.R_drew)); exact HO_17.out, zB⟩
    replace c35 := Bool.eq_false_iff.mpr c35
    subst c35
    have H1 : (if a1 = 0 then (none) else (if (wrap64 ((wrap64 ((l0.length : Int) / a1)) * a4)) > 4096 then (spec_MatBytes.j1 kj9 l0 a1 l3 a4 l6 y237 t240 t241 (wrap64 ((l0.length : Int) / a1)) true a2_0 a2_1 a5_0 a5_1 a7_0 a7_1) else (spec_MatBytes.j1 kj9 l0 a1 l3 a4 l6 y237 t240 t241 (wrap64 ((l0.length : Int) / a1)) (decide ((wrap64 ((wrap64 ((wrap64 ((l0.length : Int) / a1)) * a4)) * a1)) > 65536)) a2_0 a2_1 a5_0 a5_1 a7_0 a7_1))) = some r := by rw [if_neg (show ¬ (false = true) by decide)] at H; exact H
    clear H
    have H := H1
    clear H1
    by_cases c36 : a1 = 0
    · rw [if_pos c36] at H
      exact absurd H (by simp)
    rw [if_neg c36] at H
    have c36b0 : (a1 == 0) = false := beq_eq_false_iff_ne.mpr c36
    have c36b1 : (a1 != 0) = true := bne_iff_ne.mpr c36
    have HC37 := zK H
    clear H
    go_upto_region 6 with (fail)
    go_cut [94] (fun v94 wc => ∃ (kq : Nat) (x94_36 : Bool), v94 = .bool x94_36 ∧ Aside0 (spec_MatBytes.j1 kq l0 a1 l3 a4 l6 y237 t240 t241 (wrap64 ((l0.length : Int) / a1)) x94_36 a2_0 a2_1 a5_0 a5_1 a7_0 a7_1 = some r) ∧ Aside0 (kq ≤ kj9) ∧ Aside0 (Kd.R (Kd.int .i64) 3 wc w.heap.size (fun _ => True) v238 y237) ∧ Aside0 (wc.heap[gb234]? = some (.cells #[.int .i64 a2_0, .int .i64 a2_1] 45 (0, 0))) ∧ Aside0 (wc.heap[gb235]? = some (.cells #[.int .i64 a5_0, .int .i64 a5_1] 45 (0, 0))) ∧ Aside0 (wc.heap[gb236]? = some (.cells #[.int .i64 a7_0, .int .i64 a7_1] 45 (0, 0))) ∧ Aside0 (Below w.heap.size w wc))
    case first =>
     have H := HC37.out
     clear HC37
     by_cases c38 : (wrap64 ((wrap64 ((l0.length : Int) / a1)) * a4)) > 4096
     · rw [if_pos c38] at H
       have c38b0 : decide (4096 < (wrap64 ((wrap64 ((l0.length : Int) / a1)) * a4))) = true := decide_eq_true c38
       clear c38
       (first | rw [c38b0] | (simp only [i64_w, i32_w]; rw [c38b0]) | skip)
       have H' := zK H
       clear H
       go_wp2
       go_meet
       case rel => exact ⟨_, (true), zR, H', ⟨by have := HJ9.out; first | omega | exact Nat.le_refl _⟩, ⟨by (with_reducible repeat (first | apply Kd.R_alloc | apply Kd.R_drewN | apply Kd.R_drew)); exact HO_17.out⟩, ⟨by (with_reducible repeat (first | refine zn ?_ _ | refine zd ?_ | refine za ?_ _)); exact BK234.out⟩, ⟨by (with_reducible repeat (first | refine zn ?_ _ | refine zd ?_ | refine za ?_ _)); exact BK235.out⟩, ⟨by (with_reducible repeat (first | refine zn ?_ _ | refine zd ?_ | refine za ?_ _)); exact BK236.out⟩, ⟨zB⟩⟩
     rw [if_neg c38] at H
     have c38b0 : decide (4096 < (wrap64 ((wrap64 ((l0.length : Int) / a1)) * a4))) = false := decide_eq_false c38
     clear c38
     (first | rw [c38b0] | (simp only [i64_w, i32_w]; rw [c38b0]) | skip)
     have H' := zK H
     clear H
     go_wp2
     go_meet
     case rel => exact ⟨_, (decide ((wrap64 ((wrap64 ((wrap64 ((l0.length : Int) / a1)) * a4)) * a1)) > 65536)), zR, H', ⟨by have := HJ9.out; first | omega | exact Nat.le_refl _⟩, ⟨by (with_reducible repeat (first | apply Kd.R_alloc | apply Kd.R_drewN | apply Kd.R_drew)); exact HO_17.out⟩, ⟨by (with_reducible repeat (first | refine zn ?_ _ | refine zd ?_ | refine za ?_ _)); exact BK234.out⟩, ⟨by (with_reducible repeat (first | refine zn ?_ _ | refine zd ?_ | refine za ?_ _)); exact BK235.out⟩, ⟨by (with_reducible repeat (first | refine zn ?_ _ | refine zd ?_ | refine za ?_ _)); exact BK236.out⟩, ⟨zB⟩⟩
    case rest =>
     clear HC37
     try clear c1
     try clear c2
     try clear p2
     try clear c3
     try clear c6
     try clear p6
     try clear c7
     try clear c16
     try clear c17
     try clear c19
     try clear c20
     try clear c23
     try clear c25
     try clear c27
     try clear c29
     try clear c31
     try clear c32
     try clear c32b0
     try clear c32b1
     try clear c33
     try clear c33b0
     try clear c33b1
     try clear c34
     try clear c34b0
     try clear c34b1
     try clear c35
     try clear c36
     try clear c36b0
     try clear c36b1
     try clear c38
     try clear c38b0
     try clear hcz18_0
     try clear hcz18_1
     try clear hcz20_0
     try clear hcz20_1
     try clear hcz21_0
     try clear hcz21_1
     try clear hfz18_0
     try clear hfz18_1
     try clear hfz20_0
     try clear hfz20_1
     try clear hfz21_0
     try clear hfz21_1
     try clear p2
     try clear p6
     obtain ⟨kq, x94_36, rfl, HA, HJ36, HO_17, BK234, BK235, BK236, HB⟩ := hcut
     cases kq with
     | zero => exact absurd HA.out (by simp [spec_MatBytes.j1])
     | succ kj36 =>
      have H := HA.out
      clear HA
      simp only [spec_MatBytes.j1] at H
      by_cases c39 : x94_36 = true
      · subst c39
        have H1 : (some y237) = some r := by rw [if_pos rfl] at H; exact H
        clear H
        have H := H1
        clear H1
        obtain rfl := Option.some.inj H
        go_wp2
        go_ret
        exact ⟨_, by first | rfl | (simp [errW_none, errW_some] <;> rfl) | (simp [*, errW_none, errW_some] <;> rfl), by (with_reducible repeat (first | apply Kd.R_alloc | apply Kd.R_drewN | apply Kd.R_drew)); exact HO_17.out, zB⟩
      replace c39 := Bool.eq_false_iff.mpr c39
      subst c39
      have H1 : (spec_MatBytes.l0 kj36 l0 a1 l3 a4 l6 y237 t240 t241 (wrap64 ((l0.length : Int) / a1)) 0 a2_0 a2_1 a5_0 a5_1 a7_0 a7_1) = some r := by rw [if_neg (show ¬ (false = true) by decide)] at H; exact H
      clear H
      have H := H1
      clear H1
      have H' := zK H
      clear H
      go_wp2
      go_loopg [22] kj36 (fun kq v22 w' => ∃ (x22_3 : Int), v22 = .int .i64 x22_3 ∧ Aside0 (spec_MatBytes.l0 kq l0 a1 l3 a4 l6 y237 t240 t241 (wrap64 ((l0.length : Int) / a1)) x22_3 a2_0 a2_1 a5_0 a5_1 a7_0 a7_1 = some r) ∧ Aside0 (kq ≤ kj36) ∧ Aside0 (Kd.R (Kd.int .i64) 3 w' w.heap.size (fun _ => True) v238 y237) ∧ Aside0 (w'.heap[gb234]? = some (.cells #[.int .i64 a2_0, .int .i64 a2_1] 45 (0, 0))) ∧ Aside0 (w'.heap[gb235]? = some (.cells #[.int .i64 a5_0, .int .i64 a5_1] 45 (0, 0))) ∧ Aside0 (w'.heap[gb236]? = some (.cells #[.int .i64 a7_0, .int .i64 a7_1] 45 (0, 0))) ∧ Aside0 (Below w.heap.size w w'))
      case atStart => exact ⟨(0), zR, H', ⟨Nat.le_refl _⟩, ⟨by (with_reducible repeat (first | apply Kd.R_alloc | apply Kd.R_drewN | apply Kd.R_drew)); exact HO_17.out⟩, ⟨by (with_reducible repeat (first | refine zn ?_ _ | refine zd ?_ | refine za ?_ _)); exact BK234.out⟩, ⟨by (with_reducible repeat (first | refine zn ?_ _ | refine zd ?_ | refine za ?_ _)); exact BK235.out⟩, ⟨by (with_reducible repeat (first | refine zn ?_ _ | refine zd ?_ | refine za ?_ _)); exact BK236.out⟩, ⟨zB⟩⟩
      clear H'
      try clear c1
      try clear c2
      try clear p2
      try clear c3
      try clear c6
      try clear p6
      try clear c7
      try clear c16
      try clear c17
      try clear c19
      try clear c20
      try clear c23
      try clear c25
      try clear c27
      try clear c29
      try clear c31
      try clear c32
      try clear c32b0
      try clear c32b1
      try clear c33
      try clear c33b0
      try clear c33b1
      try clear c34
      try clear c34b0
      try clear c34b1
      try clear c35
      try clear c36
      try clear c36b0
      try clear c36b1
      try clear c38
      try clear c38b0
      try clear c39
      try clear hcz18_0
      try clear hcz18_1
      try clear hcz20_0
      try clear hcz20_1
      try clear hcz21_0
      try clear hcz21_1
      try clear hfz18_0
      try clear hfz18_1
      try clear hfz20_0
      try clear hfz20_1
      try clear hfz21_0
      try clear hfz21_1
      try clear p2
      try clear p6
      obtain ⟨x22_3, rfl, HA, HK3, HO_17, BK234, BK235, BK236, HB⟩ := hrel
      rcases gk with _ | k3
      · exact absurd HA.out (by simp [spec_MatBytes.l0])
      have H := HA.out
      clear HA
      simp only [spec_MatBytes.l0] at H
      by_cases c40 : x22_3 < a4
      · rw [if_pos c40] at H
        have c40b0 : decide (x22_3 < a4) = true := decide_eq_true c40
        clear c40
        by_cases c41 : 0 ≤ x22_3
        rotate_left
        · rw [if_neg c41] at H
          exact absurd H (by simp)
        rw [if_pos c41] at H
        have c41b0 : decide (0 ≤ x22_3) = true := decide_eq_true c41
        clear c41
        by_cases c42 : x22_3 < (l6.length : Int)
        rotate_left
        · rw [if_neg c42] at H
          exact absurd H (by simp)
        rw [if_pos c42] at H
        have c42b0 : decide (x22_3 < (l6.length : Int)) = true := decide_eq_true c42
        clear c42
        replace H := Option.bind_eq_some_iff.mp H
        obtain ⟨t248, A430, H⟩ := H
        replace H : (if t248 = true then (spec_MatBytes.l0 k3 l0 a1 l3 a4 l6 y237 t240 t241 (wrap64 ((l0.length : Int) / a1)) (wrap64 (x22_3 + 1)) a2_0 a2_1 a5_0 a5_1 a7_0 a7_1) else (some y237)) = some r := H
        have A43 := zK A430
        clear A430
        by_cases c44 : t248 = true
        rotate_left
        · replace c44 := Bool.eq_false_iff.mpr c44
          subst c44
          have H1 : (some y237) = some r := by rw [if_neg (show ¬ (false = true) by decide)] at H; exact H
          clear H
          have H := H1
          clear H1
          obtain rfl := Option.some.inj H
          have p247 : 0 ≤ (x22_3 : Int) := of_decide_eq_true zA
          have q247 : x22_3 < (l6.length : Int) := of_decide_eq_true zA
          obtain ⟨ad247, e247, hx247_0⟩ := Kd.at_int HR6.out x22_3 p247 q247
          cases e247
          (try replace hx247_0 := (HB.out.cell (World.block_lt_of_cell? w _ hx247_0)).trans hx247_0)
          replace p247 := eq_true p247
          replace q247 := eq_true q247
          go_wp2_with (first | ((with_reducible refine gate_callee (f := 71) rfl ?_); refine goesL_ (some 105) rfl rfl Try.func71 (by kernel_rfl) rfl #[.int .i64 (rd l6 x22_3), .int .i64 (-1073741824), .int .i64 1073741824] rfl zL ?_; (with_reducible refine (spec_l5In.calls (rd l6 x22_3) (-1073741824) 1073741824 false _ A43.out).mono ?_); rintro e w' ⟨rfl, ⟨nd, rfl⟩⟩; refine ⟨_, rfl, ?_⟩))
          go_ret
          exact ⟨_, by first | rfl | (simp [errW_none, errW_some] <;> rfl) | (simp [*, errW_none, errW_some] <;> rfl), by (with_reducible repeat (first | apply Kd.R_alloc | apply Kd.R_drewN | apply Kd.R_drew)); exact HO_17.out, zB⟩
        subst c44
        have H1 : (spec_MatBytes.l0 k3 l0 a1 l3 a4 l6 y237 t240 t241 (wrap64 ((l0.length : Int) / a1)) (wrap64 (x22_3 + 1)) a2_0 a2_1 a5_0 a5_1 a7_0 a7_1) = some r := by rw [if_pos rfl] at H; exact H
        clear H
        have H := H1
        clear H1
        have H' := zK H
        clear H
        have p247 : 0 ≤ (x22_3 : Int) := of_decide_eq_true zA
        have q247 : x22_3 < (l6.length : Int) := of_decide_eq_true zA
        obtain ⟨ad247, e247, hx247_0⟩ := Kd.at_int HR6.out x22_3 p247 q247
        cases e247
        (try replace hx247_0 := (HB.out.cell (World.block_lt_of_cell? w _ hx247_0)).trans hx247_0)
        replace p247 := eq_true p247
        replace q247 := eq_true q247
        go_wp2_with (first | ((with_reducible refine gate_callee (f := 71) rfl ?_); refine goesL_ (some 105) rfl rfl Try.func71 (by kernel_rfl) rfl #[.int .i64 (rd l6 x22_3), .int .i64 (-1073741824), .int .i64 1073741824] rfl zL ?_; (with_reducible refine (spec_l5In.calls (rd l6 x22_3) (-1073741824) 1073741824 true _ A43.out).mono ?_); rintro e w' ⟨rfl, ⟨nd, rfl⟩⟩; refine ⟨_, rfl, ?_⟩))
        go_roundg k3
        case measure => have := HJ9.out; have := HJ36.out; have := HK3.out; omega
        case rel => exact ⟨(wrap64 (x22_3 + 1)), zR, H', ⟨by have := HJ9.out; have := HJ36.out; have := HK3.out; omega⟩, ⟨by (with_reducible repeat (first | apply Kd.R_alloc | apply Kd.R_drewN | apply Kd.R_drew)); exact HO_17.out⟩, ⟨by (with_reducible repeat (first | refine zn ?_ _ | refine zd ?_ | refine za ?_ _)); exact BK234.out⟩, ⟨by (with_reducible repeat (first | refine zn ?_ _ | refine zd ?_ | refine za ?_ _)); exact BK235.out⟩, ⟨by (with_reducible repeat (first | refine zn ?_ _ | refine zd ?_ | refine za ?_ _)); exact BK236.out⟩, ⟨zB⟩⟩
      rw [if_neg c40] at H
      have c40b0 : decide (x22_3 < a4) = false := decide_eq_false c40
      clear c40
      have H' := zK H
      clear H
      go_wp2
      go_loopg [17, 23] k3 (fun kq v17 v23 w' => ∃ (x17_4 : List Int) (x23_4 : Int), v23 = .int .i64 x23_4 ∧ Aside0 (spec_MatBytes.l1 kq l0 a1 l3 a4 l6 x17_4 t240 t241 (wrap64 ((l0.length : Int) / a1)) x23_4 a2_0 a2_1 a5_0 a5_1 a7_0 a7_1 = some r) ∧ Aside0 (kq ≤ k3) ∧ Aside0 (Kd.R (Kd.int .i64) 3 w' w.heap.size (fun _ => True) v17 x17_4) ∧ Aside0 (w'.heap[gb234]? = some (.cells #[.int .i64 a2_0, .int .i64 a2_1] 45 (0, 0))) ∧ Aside0 (w'.heap[gb235]? = some (.cells #[.int .i64 a5_0, .int .i64 a5_1] 45 (0, 0))) ∧ Aside0 (w'.heap[gb236]? = some (.cells #[.int .i64 a7_0, .int .i64 a7_1] 45 (0, 0))) ∧ Aside0 (Below w.heap.size w w'))
      case atStart => exact ⟨(y237), (0), zR, H', ⟨Nat.le_refl _⟩, ⟨by (with_reducible repeat (first | apply Kd.R_alloc | apply Kd.R_drewN | apply Kd.R_drew)); exact HO_17.out⟩, ⟨by (with_reducible repeat (first | refine zn ?_ _ | refine zd ?_ | refine za ?_ _)); exact BK234.out⟩, ⟨by (with_reducible repeat (first | refine zn ?_ _ | refine zd ?_ | refine za ?_ _)); exact BK235.out⟩, ⟨by (with_reducible repeat (first | refine zn ?_ _ | refine zd ?_ | refine za ?_ _)); exact BK236.out⟩, ⟨zB⟩⟩
      clear H'
      try clear c1
      try clear c2
      try clear p2
      try clear q2
      try clear hx2
      try clear c3
      try clear c4
      try clear c6
      try clear p6
      try clear c7
      try clear c16
      try clear c17
      try clear c19
      try clear c20
      try clear c23
      try clear p24
      try clear q24
      try clear hx24
      try clear c25
      try clear c27
      try clear c29
      try clear c31
      try clear c32
      try clear c32b0
      try clear c32b1
      try clear c33
      try clear c33b0
      try clear c33b1
      try clear c34
      try clear c34b0
      try clear c34b1
      try clear c35
      try clear c36
      try clear c36b0
      try clear c36b1
      try clear c38
      try clear c38b0
      try clear c39
      try clear c40
      try clear c40b0
      try clear c41
      try clear c41b0
      try clear c42
      try clear c42b0
      try clear c44
      try clear hcz18_0
      try clear hcz18_1
      try clear hcz20_0
      try clear hcz20_1
      try clear hcz21_0
      try clear hcz21_1
      try clear hfz18_0
      try clear hfz18_1
      try clear hfz20_0
      try clear hfz20_1
      try clear hfz21_0
      try clear hfz21_1
      try clear hx247_0
      try clear p2
      try clear p247
      try clear p6
      try clear q247
      obtain ⟨x17_4, x23_4, rfl, HA, HK4, HO_17, BK234, BK235, BK236, HB⟩ := hrel
      rcases gk with _ | k4
      · exact absurd HA.out (by simp [spec_MatBytes.l1])
      have H := HA.out
      clear HA
      simp only [spec_MatBytes.l1] at H
      by_cases c45 : x23_4 < (wrap64 ((l0.length : Int) / a1))
      rotate_left
      · rw [if_neg c45] at H
        have c45b0 : decide (x23_4 < (wrap64 ((l0.length : Int) / a1))) = false := decide_eq_false c45
        clear c45
        obtain rfl := Option.some.inj H
        go_wp2
        go_ret
        exact ⟨_, by first | rfl | (simp [errW_none, errW_some] <;> rfl) | (simp [*, errW_none, errW_some] <;> rfl), by (with_reducible repeat (first | apply Kd.R_alloc | apply Kd.R_drewN | apply Kd.R_drew)); exact HO_17.out, zB⟩
      rw [if_pos c45] at H
      have c45b0 : decide (x23_4 < (wrap64 ((l0.length : Int) / a1))) = true := decide_eq_true c45
      clear c45
      have H' := zK H
      clear H
      go_wp2
      go_loopg [17, 24] k4 (fun kq v17 v24 w' => ∃ (x17_5 : List Int) (x24_5 : Int), v24 = .int .i64 x24_5 ∧ Aside0 (spec_MatBytes.l2 kq l0 a1 l3 a4 l6 x17_5 t240 t241 (wrap64 ((l0.length : Int) / a1)) x23_4 x24_5 a2_0 a2_1 a5_0 a5_1 a7_0 a7_1 = some r) ∧ Aside0 (kq ≤ k4) ∧ Aside0 (Kd.R (Kd.int .i64) 3 w' w.heap.size (fun _ => True) v17 x17_5) ∧ Aside0 (w'.heap[gb234]? = some (.cells #[.int .i64 a2_0, .int .i64 a2_1] 45 (0, 0))) ∧ Aside0 (w'.heap[gb235]? = some (.cells #[.int .i64 a5_0, .int .i64 a5_1] 45 (0, 0))) ∧ Aside0 (w'.heap[gb236]? = some (.cells #[.int .i64 a7_0, .int .i64 a7_1] 45 (0, 0))) ∧ Aside0 (Below w.heap.size w w'))
      case atStart => exact ⟨(x17_4), (0), zR, H', ⟨Nat.le_refl _⟩, ⟨by (with_reducible repeat (first | apply Kd.R_alloc | apply Kd.R_drewN | apply Kd.R_drew)); exact HO_17.out⟩, ⟨by (with_reducible repeat (first | refine zn ?_ _ | refine zd ?_ | refine za ?_ _)); exact BK234.out⟩, ⟨by (with_reducible repeat (first | refine zn ?_ _ | refine zd ?_ | refine za ?_ _)); exact BK235.out⟩, ⟨by (with_reducible repeat (first | refine zn ?_ _ | refine zd ?_ | refine za ?_ _)); exact BK236.out⟩, ⟨zB⟩⟩
      clear H'
      try clear c1
      try clear c2
      try clear p2
      try clear q2
      try clear hx2
      try clear c3
      try clear c4
      try clear c6
      try clear p6
      try clear c7
      try clear c16
      try clear c17
      try clear c19
      try clear c20
      try clear c23
      try clear p24
      try clear q24
      try clear hx24
      try clear c25
      try clear c27
      try clear c29
      try clear c31
      try clear c32
      try clear c32b0
      try clear c32b1
      try clear c33
      try clear c33b0
      try clear c33b1
      try clear c34
      try clear c34b0
      try clear c34b1
      try clear c35
      try clear c36
      try clear c36b0
      try clear c36b1
      try clear c38
      try clear c38b0
      try clear c39
      try clear c40
      try clear c40b0
      try clear c41
      try clear c41b0
      try clear c42
      try clear c42b0
      try clear c44
      try clear c45
      try clear c45b0
      try clear hcz18_0
      try clear hcz18_1
      try clear hcz20_0
      try clear hcz20_1
      try clear hcz21_0
      try clear hcz21_1
      try clear hfz18_0
      try clear hfz18_1
      try clear hfz20_0
      try clear hfz20_1
      try clear hfz21_0
      try clear hfz21_1
      try clear hx247_0
      try clear p2
      try clear p24
      try clear p247
      try clear p6
      try clear q2
      try clear q24
      try clear q247
      obtain ⟨x17_5, x24_5, rfl, HA, HK5, HO_17, BK234, BK235, BK236, HB⟩ := hrel
      rcases gk with _ | k5
      · exact absurd HA.out (by simp [spec_MatBytes.l2])
      have H := HA.out
      clear HA
      simp only [spec_MatBytes.l2] at H
      by_cases c46 : x24_5 < a4
      rotate_left
      · rw [if_neg c46] at H
        have c46b0 : decide (x24_5 < a4) = false := decide_eq_false c46
        clear c46
        have H' := zK H
        clear H
        go_wp2
        go_roundg k5
        case measure => have := HJ9.out; have := HJ36.out; have := HK3.out; have := HK4.out; have := HK5.out; omega
        case rel => exact ⟨(x17_5), (wrap64 (x23_4 + 1)), zR, H', ⟨by have := HJ9.out; have := HJ36.out; have := HK3.out; have := HK4.out; have := HK5.out; omega⟩, ⟨by (with_reducible repeat (first | apply Kd.R_alloc | apply Kd.R_drewN | apply Kd.R_drew)); exact HO_17.out⟩, ⟨by (with_reducible repeat (first | refine zn ?_ _ | refine zd ?_ | refine za ?_ _)); exact BK234.out⟩, ⟨by (with_reducible repeat (first | refine zn ?_ _ | refine zd ?_ | refine za ?_ _)); exact BK235.out⟩, ⟨by (with_reducible repeat (first | refine zn ?_ _ | refine zd ?_ | refine za ?_ _)); exact BK236.out⟩, ⟨zB⟩⟩
      rw [if_pos c46] at H
      have c46b0 : decide (x24_5 < a4) = true := decide_eq_true c46
      clear c46
      obtain ⟨ji47, hji47⟩ : ∃ j_ : Int, (wrap64 (x23_4 * a1)) = j_ := ⟨_, rfl⟩
      replace H : (if 0 ≤ (ji47) then (if (ji47) ≤ (wrap64 ((ji47) + a1)) then (if (wrap64 ((ji47) + a1)) ≤ (l0.length : Int) then (if 0 ≤ (wrap64 (x24_5 * a1)) then (if (wrap64 (x24_5 * a1)) ≤ (wrap64 ((wrap64 (x24_5 * a1)) + a1)) then (if (wrap64 ((wrap64 (x24_5 * a1)) + a1)) ≤ (l3.length : Int) then ((spec_DotBytes.f k5 a2_0 a2_1 a5_0 a5_1 ((l0.take ((wrap64 ((ji47) + a1)) : Int).toNat).drop ((ji47) : Int).toNat) ((l3.take ((wrap64 ((wrap64 (x24_5 * a1)) + a1)) : Int).toNat).drop ((wrap64 (x24_5 * a1)) : Int).toNat)).bind fun t251 => (if 0 ≤ x24_5 then (if x24_5 < (l6.length : Int) then ((spec_l14Clip.f (wrap64 (t251 + (rd l6 x24_5))) (-1073741824) 1073741824).bind fun t253 => ((spec_Requant.f k5 t253 t240 t241 a7_0 a7_1).bind fun t254 => (if x17_5.length < 17592186044416 then (spec_MatBytes.l2 k5 l0 a1 l3 a4 l6 (x17_5 ++ [t254]) t240 t241 (wrap64 ((l0.length : Int) / a1)) x23_4 (wrap64 (x24_5 + 1)) a2_0 a2_1 a5_0 a5_1 a7_0 a7_1) else (none)))) else (none)) else (none))) else (none)) else (none)) else (none)) else (none)) else (none)) else (none)) = some r := by first | (rw [hji47] at H; exact H) | (simp only [hji47] at H ⊢; exact H)
      have hji47w : (IntKind.i64.wrap (x23_4 * a1)) = ji47 := (i64_w _).trans hji47
      by_cases c48 : 0 ≤ (ji47)
      rotate_left
      · rw [if_neg c48] at H
        exact absurd H (by simp)
      rw [if_pos c48] at H
      have c48b0 := eq_true c48
      have c48b1 : decide (0 ≤ (ji47)) = true := decide_eq_true c48
      clear c48
      by_cases c49 : (ji47) ≤ (wrap64 ((ji47) + a1))
      rotate_left
      · rw [if_neg c49] at H
        exact absurd H (by simp)
      rw [if_pos c49] at H
      have c49b0 := eq_true c49
      have c49b1 : decide ((ji47) ≤ (wrap64 ((ji47) + a1))) = true := decide_eq_true c49
      by_cases c50 : (wrap64 ((ji47) + a1)) ≤ (l0.length : Int)
      rotate_left
      · rw [if_neg c50] at H
        exact absurd H (by simp)
      rw [if_pos c50] at H
      have c50b0 := eq_true c50
      have c50b1 : decide ((wrap64 ((ji47) + a1)) ≤ (l0.length : Int)) = true := decide_eq_true c50
      obtain ⟨ji51, hji51⟩ : ∃ j_ : Int, (wrap64 (x24_5 * a1)) = j_ := ⟨_, rfl⟩
      replace H : (if 0 ≤ (ji51) then (if (ji51) ≤ (wrap64 ((ji51) + a1)) then (if (wrap64 ((ji51) + a1)) ≤ (l3.length : Int) then ((spec_DotBytes.f k5 a2_0 a2_1 a5_0 a5_1 ((l0.take ((wrap64 ((ji47) + a1)) : Int).toNat).drop ((ji47) : Int).toNat) ((l3.take ((wrap64 ((ji51) + a1)) : Int).toNat).drop ((ji51) : Int).toNat)).bind fun t251 => (if 0 ≤ x24_5 then (if x24_5 < (l6.length : Int) then ((spec_l14Clip.f (wrap64 (t251 + (rd l6 x24_5))) (-1073741824) 1073741824).bind fun t253 => ((spec_Requant.f k5 t253 t240 t241 a7_0 a7_1).bind fun t254 => (if x17_5.length < 17592186044416 then (spec_MatBytes.l2 k5 l0 a1 l3 a4 l6 (x17_5 ++ [t254]) t240 t241 (wrap64 ((l0.length : Int) / a1)) x23_4 (wrap64 (x24_5 + 1)) a2_0 a2_1 a5_0 a5_1 a7_0 a7_1) else (none)))) else (none)) else (none))) else (none)) else (none)) else (none)) = some r := by first | (rw [hji51] at H; exact H) | (simp only [hji51] at H ⊢; exact H)
      have hji51w : (IntKind.i64.wrap (x24_5 * a1)) = ji51 := (i64_w _).trans hji51
      by_cases c52 : 0 ≤ (ji51)
      rotate_left
      · rw [if_neg c52] at H
        exact absurd H (by simp)
      rw [if_pos c52] at H
      have c52b0 := eq_true c52
      have c52b1 : decide (0 ≤ (ji51)) = true := decide_eq_true c52
      clear c52
      by_cases c53 : (ji51) ≤ (wrap64 ((ji51) + a1))
      rotate_left
      · rw [if_neg c53] at H
        exact absurd H (by simp)
      rw [if_pos c53] at H
      have c53b0 := eq_true c53
      have c53b1 : decide ((ji51) ≤ (wrap64 ((ji51) + a1))) = true := decide_eq_true c53
      by_cases c54 : (wrap64 ((ji51) + a1)) ≤ (l3.length : Int)
      rotate_left
      · rw [if_neg c54] at H
        exact absurd H (by simp)
      rw [if_pos c54] at H
      have c54b0 := eq_true c54
      have c54b1 : decide ((wrap64 ((ji51) + a1)) ≤ (l3.length : Int)) = true := decide_eq_true c54
      replace H := Option.bind_eq_some_iff.mp H
      obtain ⟨t251, A550, H⟩ := H
      replace H : (if 0 ≤ x24_5 then (if x24_5 < (l6.length : Int) then ((spec_l14Clip.f (wrap64 (t251 + (rd l6 x24_5))) (-1073741824) 1073741824).bind fun t253 => ((spec_Requant.f k5 t253 t240 t241 a7_0 a7_1).bind fun t254 => (if x17_5.length < 17592186044416 then (spec_MatBytes.l2 k5 l0 a1 l3 a4 l6 (x17_5 ++ [t254]) t240 t241 (wrap64 ((l0.length : Int) / a1)) x23_4 (wrap64 (x24_5 + 1)) a2_0 a2_1 a5_0 a5_1 a7_0 a7_1) else (none)))) else (none)) else (none)) = some r := H
      have A55 := zK A550
      clear A550
      by_cases c56 : 0 ≤ x24_5
      rotate_left
      · rw [if_neg c56] at H
        exact absurd H (by simp)
      rw [if_pos c56] at H
      have c56b0 : decide (0 ≤ x24_5) = true := decide_eq_true c56
      clear c56
      by_cases c57 : x24_5 < (l6.length : Int)
      rotate_left
      · rw [if_neg c57] at H
        exact absurd H (by simp)
      rw [if_pos c57] at H
      have c57b0 : decide (x24_5 < (l6.length : Int)) = true := decide_eq_true c57
      clear c57
      replace H := Option.bind_eq_some_iff.mp H
      obtain ⟨t253, A580, H⟩ := H
      replace H : ((spec_Requant.f k5 t253 t240 t241 a7_0 a7_1).bind fun t254 => (if x17_5.length < 17592186044416 then (spec_MatBytes.l2 k5 l0 a1 l3 a4 l6 (x17_5 ++ [t254]) t240 t241 (wrap64 ((l0.length : Int) / a1)) x23_4 (wrap64 (x24_5 + 1)) a2_0 a2_1 a5_0 a5_1 a7_0 a7_1) else (none))) = some r := H
      have A58 := zK A580
      clear A580
      replace H := Option.bind_eq_some_iff.mp H
      obtain ⟨t254, A590, H⟩ := H
      replace H : (if x17_5.length < 17592186044416 then (spec_MatBytes.l2 k5 l0 a1 l3 a4 l6 (x17_5 ++ [t254]) t240 t241 (wrap64 ((l0.length : Int) / a1)) x23_4 (wrap64 (x24_5 + 1)) a2_0 a2_1 a5_0 a5_1 a7_0 a7_1) else (none)) = some r := H
      have A59 := zK A590
      clear A590
      by_cases c60 : x17_5.length < 17592186044416
      rotate_left
      · rw [if_neg c60] at H
        exact absurd H (by simp)
      rw [if_pos c60] at H
      have LMc60 := zK c60
      clear c60
      obtain ⟨y255, hy255⟩ : ∃ y_ : List Int, y_ = (x17_5 ++ [t254]) := ⟨_, rfl⟩
      replace H : (spec_MatBytes.l2 k5 l0 a1 l3 a4 l6 y255 t240 t241 (wrap64 ((l0.length : Int) / a1)) x23_4 (wrap64 (x24_5 + 1)) a2_0 a2_1 a5_0 a5_1 a7_0 a7_1) = some r := by first | (rw [hy255]; with_reducible exact H) | (have H2_ := (Option.bind_some _ _).symm.trans H; rw [hy255]; with_reducible exact H2_) | (have H2_ := (Option.bind_some _ _).symm.trans H; with_reducible exact H2_) | with_reducible exact H | (rw [hy255]; exact H) | exact H
      have Ny255 := zK hy255
      clear hy255
      have H' := zK H
      clear H
      try go_wp2
      have n0_ := zK (Kd.R_drew HO_17.out)
      have n1_ := zK (zd BK234.out)
      have n2_ := zK (zd BK235.out)
      have n3_ := zK (zd BK236.out)
      have n4_ := zK (ze HB.out)
      clear HO_17
      clear BK234
      clear BK235
      clear BK236
      clear HB
      have HO_17 := n0_
      have BK234 := n1_
      have BK235 := n2_
      have BK236 := n3_
      have HB := n4_
      clear n0_ n1_ n2_ n3_ n4_
      obtain ⟨i062, hi062, _, hsz62, _⟩ := info_parts info3
      obtain ⟨A62, hcut62, hA62, hC62⟩ := print_mid_of (P := Try.prog) (Value.int .i64) 0 22 3 .i64 .i64 Try.underlying22 hi062 hsz62 A0 c0 l0 (ji47) (wrap64 ((ji47) + a1)) (of_decide_eq_true zA) (by first | omega | exact of_decide_eq_true zA) (of_decide_eq_true zA) HC0.out
      have HR249 := zK (Kd.C_of_reads (h1 := fun _ => rfl) (hA62 _ (Kd.reads_of_C HR0.out)))
      have HC249 := zK hC62
      clear hA62 hC62 hi062 hsz62
      obtain ⟨i063, hi063, _, hsz63, _⟩ := info_parts info3
      obtain ⟨A63, hcut63, hA63, hC63⟩ := print_mid_of (P := Try.prog) (Value.int .i64) 0 22 3 .i64 .i64 Try.underlying22 hi063 hsz63 A3 c3 l3 (ji51) (wrap64 ((ji51) + a1)) (of_decide_eq_true zA) (by first | omega | exact of_decide_eq_true zA) (of_decide_eq_true zA) HC3.out
      have HR250 := zK (Kd.C_of_reads (h1 := fun _ => rfl) (hA63 _ (Kd.reads_of_C HR3.out)))
      have HC250 := zK hC63
      clear hA63 hC63 hi063 hsz63
      have p252 : 0 ≤ (x24_5 : Int) := of_decide_eq_true zA
      have q252 : x24_5 < (l6.length : Int) := of_decide_eq_true zA
      obtain ⟨ad252, e252, hx252_0⟩ := Kd.at_int HR6.out x24_5 p252 q252
      have hw252_0 := hx252_0
      cases e252
      (try replace hx252_0 := (HB.out.cell (World.block_lt_of_cell? w _ hx252_0)).trans hx252_0)
      replace p252 := eq_true p252
      replace q252 := eq_true q252
      refine start_ (n := 29) (S := fun w' => w'.cell? ⟨gb234, 0, none⟩ = some (.int .i64 a2_0) ∧ w'.cell? ⟨gb234, 1, none⟩ = some (.int .i64 a2_1) ∧ w'.cell? ⟨gb235, 0, none⟩ = some (.int .i64 a5_0) ∧ w'.cell? ⟨gb235, 1, none⟩ = some (.int .i64 a5_1) ∧ w'.cell? (ad252.add (x24_5).toNat) = some (.int .i64 (rd l6 x24_5))) (ds := []) #[false, false, false, false, false, false, false, false, false, false, false, false, false, false, false, false, false, false, false, false, false, false, false, false, false, false, false, false, false] (by kernel_rfl) rfl rfl ⟨(zc BK234.out 0).trans rfl, (zc BK234.out 1).trans rfl, (zc BK235.out 0).trans rfl, (zc BK235.out 1).trans rfl, ((HB.out.cell (World.block_lt_of_cell? w _ hw252_0)).trans hw252_0)⟩ (fun hHeld => ?_); refine with_tabW spec_MatBytes.tab19 spec_MatBytes.bits19 (fun HT_ HW_ => ?_)
      generalize wr.drew = w61 at HO_17 BK234 BK235 BK236 HB HR249 HR250 hx252_0 hHeld ⊢
      refine pure_ (i := 2) (N := some 120) (v := ?_) (a' := ?_) #[false, false, true, false, false, false, false, false, false, false, false, false, false, false, false, false, false, false, false, false, false, false, false, false, false, false, false, false, false] rfl rfl (any_of HT_.out (by kernel_rfl)) (fun _ _ _ h => h) (Or.inl ⟨by rfl, ?_⟩) ?_ ?_
      rotate_left
      · intro w'
        go_simp
        with_reducible rfl
      rotate_left
      · simp only [Act.put, List.setIfInBounds_toArray, List.set_cons_zero, List.set_cons_succ, i64_w, i32_w]
        rfl
      refine pure_ (i := 3) (N := some 121) (v := ?_) (a' := ?_) #[false, false, true, true, false, false, false, false, false, false, false, false, false, false, false, false, false, false, false, false, false, false, false, false, false, false, false, false, false] rfl rfl (any_of HT_.out (by kernel_rfl)) (fun _ _ _ h => h) (Or.inl ⟨by rfl, ?_⟩) ?_ ?_
      rotate_left
      · intro w'
        go_simp
        with_reducible rfl
      rotate_left
      · simp only [Act.put, List.setIfInBounds_toArray, List.set_cons_zero, List.set_cons_succ, i64_w, i32_w]
        rfl
      refine pure_ (i := 4) (N := some 122) (v := ?_) (a' := ?_) #[false, false, true, true, true, false, false, false, false, false, false, false, false, false, false, false, false, false, false, false, false, false, false, false, false, false, false, false, false] rfl rfl (any_of HT_.out (by kernel_rfl)) (fun _ _ _ h => h) (Or.inl ⟨by rfl, ?_⟩) ?_ ?_
      rotate_left
      · intro w'
        go_simp
        with_reducible rfl
      rotate_left
      · simp only [Act.put, List.setIfInBounds_toArray, List.set_cons_zero, List.set_cons_succ, i64_w, i32_w]
        rfl
      refine pure_ (i := 5) (N := some 123) (v := ?_) (a' := ?_) #[false, false, true, true, true, true, false, false, false, false, false, false, false, false, false, false, false, false, false, false, false, false, false, false, false, false, false, false, false] rfl rfl (any_of HT_.out (by kernel_rfl)) (fun _ _ _ h => h) (Or.inl ⟨by rfl, ?_⟩) ?_ ?_
      rotate_left
      · intro w'
        go_simp
        with_reducible rfl
      rotate_left
      · simp only [Act.put, List.setIfInBounds_toArray, List.set_cons_zero, List.set_cons_succ, i64_w, i32_w]
        rfl
      refine pure_ (i := 6) (N := some 124) (v := ?_) (a' := ?_) #[false, false, true, true, true, true, true, false, false, false, false, false, false, false, false, false, false, false, false, false, false, false, false, false, false, false, false, false, false] rfl rfl (any_of HT_.out (by kernel_rfl)) (fun _ _ _ h => h) (Or.inl ⟨by rfl, ?_⟩) ?_ ?_
      rotate_left
      · intro w'
        go_simp
        with_reducible rfl
      rotate_left
      · simp only [Act.put, List.setIfInBounds_toArray, List.set_cons_zero, List.set_cons_succ, i64_w, i32_w]
        rfl
      refine pure_ (i := 7) (N := some 125) (v := ?_) (a' := ?_) #[false, false, true, true, true, true, true, true, false, false, false, false, false, false, false, false, false, false, false, false, false, false, false, false, false, false, false, false, false] rfl rfl (any_of HT_.out (by kernel_rfl)) (fun _ _ _ h => h) (Or.inl ⟨by rfl, ?_⟩) ?_ ?_
      rotate_left
      · intro w'
        go_simp
        with_reducible rfl
      rotate_left
      · simp only [Act.put, List.setIfInBounds_toArray, List.set_cons_zero, List.set_cons_succ, i64_w, i32_w]
        rfl
      refine pure_ (i := 8) (N := some 126) (v := ?_) (a' := ?_) #[false, false, true, true, true, true, true, true, true, false, false, false, false, false, false, false, false, false, false, false, false, false, false, false, false, false, false, false, false] rfl rfl (any_of HT_.out (by kernel_rfl)) (fun _ _ _ h => h) (Or.inl ⟨by rfl, ?_⟩) ?_ ?_
      rotate_left
      · intro w'
        go_simp
        with_reducible rfl
      rotate_left
      · simp only [Act.put, List.setIfInBounds_toArray, List.set_cons_zero, List.set_cons_succ, i64_w, i32_w]
        rfl
      refine pure_ (i := 9) (N := some 127) (v := ?_) (a' := ?_) #[false, false, true, true, true, true, true, true, true, true, false, false, false, false, false, false, false, false, false, false, false, false, false, false, false, false, false, false, false] rfl rfl (any_of HT_.out (by kernel_rfl)) (fun _ _ _ h => h) (Or.inl ⟨by rfl, ?_⟩) ?_ ?_
      rotate_left
      · intro w'
        go_simp
        with_reducible rfl
      rotate_left
      · simp only [Act.put, List.setIfInBounds_toArray, List.set_cons_zero, List.set_cons_succ, i64_w, i32_w]
        rfl
      refine pure_ (i := 10) (N := some 128) (v := ?_) (a' := ?_) #[false, false, true, true, true, true, true, true, true, true, true, false, false, false, false, false, false, false, false, false, false, false, false, false, false, false, false, false, false] rfl rfl (any_of HT_.out (by kernel_rfl)) (fun _ _ _ h => h) (Or.inl ⟨by rfl, ?_⟩) ?_ ?_
      rotate_left
      · intro w'
        go_simp
        with_reducible rfl
      rotate_left
      · simp only [Act.put, List.setIfInBounds_toArray, List.set_cons_zero, List.set_cons_succ, i64_w, i32_w]
        rfl
      refine pure_ (i := 11) (N := some 129) (v := ?_) (a' := ?_) #[false, false, true, true, true, true, true, true, true, true, true, true, false, false, false, false, false, false, false, false, false, false, false, false, false, false, false, false, false] rfl rfl (any_of HT_.out (by kernel_rfl)) (fun _ _ _ h => h) (Or.inl ⟨by rfl, ?_⟩) ?_ ?_
      rotate_left
      · intro w'
        go_simp
        with_reducible rfl
      rotate_left
      · simp only [Act.put, List.setIfInBounds_toArray, List.set_cons_zero, List.set_cons_succ, i64_w, i32_w]
        rfl
      refine pure_ (i := 12) (N := some 130) (v := ?_) (a' := ?_) #[false, false, true, true, true, true, true, true, true, true, true, true, true, false, false, false, false, false, false, false, false, false, false, false, false, false, false, false, false] rfl rfl (any_of HT_.out (by kernel_rfl)) (fun _ _ _ h => h) (Or.inl ⟨by rfl, ?_⟩) ?_ ?_
      rotate_left
      · intro w'
        go_simp
        with_reducible rfl
      rotate_left
      · simp only [Act.put, List.setIfInBounds_toArray, List.set_cons_zero, List.set_cons_succ, i64_w, i32_w]
        rfl
      refine pure_ (i := 13) (N := some 131) (v := ?_) (a' := ?_) #[false, false, true, true, true, true, true, true, true, true, true, true, true, true, false, false, false, false, false, false, false, false, false, false, false, false, false, false, false] rfl rfl (any_of HT_.out (by kernel_rfl)) (fun _ _ _ h => h) (Or.inl ⟨by rfl, ?_⟩) ?_ ?_
      rotate_left
      · intro w'
        go_simp
        with_reducible rfl
      rotate_left
      · simp only [Act.put, List.setIfInBounds_toArray, List.set_cons_zero, List.set_cons_succ, i64_w, i32_w]
        rfl
      refine pure_ (i := 14) (N := some 132) (v := ?_) (a' := ?_) #[false, false, true, true, true, true, true, true, true, true, true, true, true, true, true, false, false, false, false, false, false, false, false, false, false, false, false, false, false] rfl rfl (any_of HT_.out (by kernel_rfl)) (fun _ _ _ h => h) (Or.inl ⟨by rfl, ?_⟩) ?_ ?_
      rotate_left
      · intro w'
        go_simp
        with_reducible rfl
      rotate_left
      · simp only [Act.put, List.setIfInBounds_toArray, List.set_cons_zero, List.set_cons_succ, i64_w, i32_w]
        rfl
      refine pure_ (i := 15) (N := some 133) (v := ?_) (a' := ?_) #[false, false, true, true, true, true, true, true, true, true, true, true, true, true, true, true, false, false, false, false, false, false, false, false, false, false, false, false, false] rfl rfl (any_of HT_.out (by kernel_rfl)) (fun _ _ _ h => h) (Or.inl ⟨by rfl, ?_⟩) ?_ ?_
      rotate_left
      · intro w'
        go_simp
        with_reducible rfl
      rotate_left
      · simp only [Act.put, List.setIfInBounds_toArray, List.set_cons_zero, List.set_cons_succ, i64_w, i32_w]
        rfl
      refine pure_ (i := 16) (N := some 134) (v := ?_) (a' := ?_) #[false, false, true, true, true, true, true, true, true, true, true, true, true, true, true, true, true, false, false, false, false, false, false, false, false, false, false, false, false] rfl rfl (any_of HT_.out (by kernel_rfl)) (fun _ _ _ h => h) (Or.inl ⟨by rfl, ?_⟩) ?_ ?_
      rotate_left
      · intro w'
        go_simp
        with_reducible rfl
      rotate_left
      · simp only [Act.put, List.setIfInBounds_toArray, List.set_cons_zero, List.set_cons_succ, i64_w, i32_w]
        rfl
      refine pure_ (i := 17) (N := some 135) (v := ?_) (a' := ?_) #[false, false, true, true, true, true, true, true, true, true, true, true, true, true, true, true, true, true, false, false, false, false, false, false, false, false, false, false, false] rfl rfl (any_of HT_.out (by kernel_rfl)) (fun _ _ _ h => h) (Or.inl ⟨by rfl, ?_⟩) ?_ ?_
      rotate_left
      · intro w'
        go_simp
        with_reducible rfl
      rotate_left
      · simp only [Act.put, List.setIfInBounds_toArray, List.set_cons_zero, List.set_cons_succ, i64_w, i32_w]
        rfl
      refine pure_ (i := 18) (N := some 136) (v := ?_) (a' := ?_) #[false, false, true, true, true, true, true, true, true, true, true, true, true, true, true, true, true, true, true, false, false, false, false, false, false, false, false, false, false] rfl rfl (any_of HT_.out (by kernel_rfl)) (fun _ _ _ h => h) (Or.inl ⟨by rfl, ?_⟩) ?_ ?_
      rotate_left
      · intro w'
        go_simp
        with_reducible rfl
      rotate_left
      · simp only [Act.put, List.setIfInBounds_toArray, List.set_cons_zero, List.set_cons_succ, i64_w, i32_w]
        rfl
      refine pure_ (i := 19) (N := some 137) (v := ?_) (a' := ?_) #[false, false, true, true, true, true, true, true, true, true, true, true, true, true, true, true, true, true, true, true, false, false, false, false, false, false, false, false, false] rfl rfl (any_of HT_.out (by kernel_rfl)) (fun _ _ _ h => h) (Or.inl ⟨by rfl, ?_⟩) ?_ ?_
      rotate_left
      · intro w'
        go_simp
        with_reducible rfl
      rotate_left
      · simp only [Act.put, List.setIfInBounds_toArray, List.set_cons_zero, List.set_cons_succ, i64_w, i32_w]
        rfl
      refine pure_ (i := 20) (N := some 138) (v := ?_) (a' := ?_) #[false, false, true, true, true, true, true, true, true, true, true, true, true, true, true, true, true, true, true, true, true, false, false, false, false, false, false, false, false] rfl rfl (any_of HT_.out (by kernel_rfl)) (fun _ _ _ h => h) (Or.inl ⟨by rfl, ?_⟩) ?_ ?_
      rotate_left
      · intro w'
        go_simp
        with_reducible rfl
      rotate_left
      · simp only [Act.put, List.setIfInBounds_toArray, List.set_cons_zero, List.set_cons_succ, i64_w, i32_w]
        rfl
      refine pure_ (i := 21) (N := some 139) (v := ?_) (a' := ?_) #[false, false, true, true, true, true, true, true, true, true, true, true, true, true, true, true, true, true, true, true, true, true, false, false, false, false, false, false, false] rfl rfl (any_of HT_.out (by kernel_rfl)) (fun _ _ _ h => h) (Or.inl ⟨by rfl, ?_⟩) ?_ ?_
      rotate_left
      · intro w'
        go_simp
        with_reducible rfl
      rotate_left
      · simp only [Act.put, List.setIfInBounds_toArray, List.set_cons_zero, List.set_cons_succ, i64_w, i32_w]
        rfl
      refine pure_ (i := 23) (N := some 141) (v := ?_) (a' := ?_) #[false, false, true, true, true, true, true, true, true, true, true, true, true, true, true, true, true, true, true, true, true, true, false, true, false, false, false, false, false] rfl rfl (any_of HT_.out (by kernel_rfl)) (fun _ _ _ h => h) (Or.inl ⟨by rfl, ?_⟩) ?_ ?_
      rotate_left
      · intro w'
        go_simp
        with_reducible rfl
      rotate_left
      · simp only [Act.put, List.setIfInBounds_toArray, List.set_cons_zero, List.set_cons_succ, i64_w, i32_w]
        rfl
      refine pure_ (i := 24) (N := some 142) (v := ?_) (a' := ?_) #[false, false, true, true, true, true, true, true, true, true, true, true, true, true, true, true, true, true, true, true, true, true, false, true, true, false, false, false, false] rfl rfl (any_of HT_.out (by kernel_rfl)) (fun _ _ _ h => h) (Or.inl ⟨by rfl, ?_⟩) ?_ ?_
      rotate_left
      · intro w'
        go_simp
        with_reducible rfl
      rotate_left
      · simp only [Act.put, List.setIfInBounds_toArray, List.set_cons_zero, List.set_cons_succ, i64_w, i32_w]
        rfl
      refine pure_ (i := 25) (N := some 143) (v := ?_) (a' := ?_) #[false, false, true, true, true, true, true, true, true, true, true, true, true, true, true, true, true, true, true, true, true, true, false, true, true, true, false, false, false] rfl rfl (any_of HT_.out (by kernel_rfl)) (fun _ _ _ h => h) (Or.inl ⟨by rfl, ?_⟩) ?_ ?_
      rotate_left
      · intro w'
        go_simp
        with_reducible rfl
      rotate_left
      · simp only [Act.put, List.setIfInBounds_toArray, List.set_cons_zero, List.set_cons_succ, i64_w, i32_w]
        rfl
      refine take_ (i := 0) (N := some 118) (v := ?_) (a' := ?_) #[true, false, true, true, true, true, true, true, true, true, true, true, true, true, true, true, true, true, true, true, true, true, false, true, true, true, false, false, false] rfl rfl (take_ofW HT_.out HW_.out (by kernel_rfl)) (fun _ _ _ h => h) (Or.inl ⟨by rfl, ?_⟩) hHeld ?_ ?_
      rotate_left
      · rintro w' ⟨s0, s1, s2, s3, s4⟩
        go_simp
        with_reducible rfl
      rotate_left
      · simp only [Act.put, List.setIfInBounds_toArray, List.set_cons_zero, List.set_cons_succ, i64_w, i32_w]
        rfl
      refine take_ (i := 1) (N := some 119) (v := ?_) (a' := ?_) #[true, true, true, true, true, true, true, true, true, true, true, true, true, true, true, true, true, true, true, true, true, true, false, true, true, true, false, false, false] rfl rfl (take_ofW HT_.out HW_.out (by kernel_rfl)) (fun _ _ _ h => h) (Or.inl ⟨by rfl, ?_⟩) hHeld ?_ ?_
      rotate_left
      · rintro w' ⟨s0, s1, s2, s3, s4⟩
        go_simp
        with_reducible rfl
      rotate_left
      · simp only [Act.put, List.setIfInBounds_toArray, List.set_cons_zero, List.set_cons_succ, i64_w, i32_w]
        rfl
      refine take_ (i := 26) (N := some 144) (v := ?_) (a' := ?_) #[true, true, true, true, true, true, true, true, true, true, true, true, true, true, true, true, true, true, true, true, true, true, false, true, true, true, true, false, false] rfl rfl (take_ofW HT_.out HW_.out (by kernel_rfl)) (fun _ _ _ h => h) (Or.inl ⟨by rfl, ?_⟩) hHeld ?_ ?_
      rotate_left
      · rintro w' ⟨s0, s1, s2, s3, s4⟩
        go_simp
        with_reducible rfl
      rotate_left
      · simp only [Act.put, List.setIfInBounds_toArray, List.set_cons_zero, List.set_cons_succ, i64_w, i32_w]
        rfl
      refine one_ (i := 22) (N := some 140) #[true, true, true, true, true, true, true, true, true, true, true, true, true, true, true, true, true, true, true, true, true, true, true, true, true, true, true, false, false] rfl rfl (one_of HT_.out (by kernel_rfl)) (by decide) (fun K hK => ?_)
      refine goes_ Try.func73 (by kernel_rfl) rfl #[.agg #[.int .i64 a2_0, .int .i64 a2_1], .agg #[.int .i64 a5_0, .int .i64 a5_1], .slice A62 ((l0.take ((wrap64 ((ji47) + a1)) : Int).toNat).drop ((ji47) : Int).toNat).length (c0 - (ji47).toNat), .slice A63 ((l3.take ((wrap64 ((ji51) + a1)) : Int).toNat).drop ((ji51) : Int).toNat).length (c3 - (ji51).toNat)] (by rfl) rfl rfl (by (try simp only [List.map_toArray, List.map_cons, List.map_nil]); first | done | (rw [show ((l0.take ((wrap64 ((ji47) + a1)) : Int).toNat).drop ((ji47) : Int).toNat).length = ((wrap64 ((ji47) + a1)).toNat - (ji47).toNat) from (by rw [List.length_drop, List.length_take]; have h_ : ((wrap64 ((ji47) + a1)) : Int) ≤ (l0.length : Int) := of_decide_eq_true zA; omega), show ((l3.take ((wrap64 ((ji51) + a1)) : Int).toNat).drop ((ji51) : Int).toNat).length = ((wrap64 ((ji51) + a1)).toNat - (ji51).toNat) from (by rw [List.length_drop, List.length_take]; have h_ : ((wrap64 ((ji51) + a1)) : Int) ≤ (l3.length : Int) := of_decide_eq_true zA; omega)] <;> rfl) | (rw [show ((l0.take ((wrap64 ((ji47) + a1)) : Int).toNat).drop ((ji47) : Int).toNat).length = ((wrap64 ((ji47) + a1)).toNat - (ji47).toNat) from (by rw [List.length_drop, List.length_take]; have h_ : ((wrap64 ((ji47) + a1)) : Int) ≤ (l0.length : Int) := of_decide_eq_true zA; omega)] <;> rfl) | (rw [show ((l3.take ((wrap64 ((ji51) + a1)) : Int).toNat).drop ((ji51) : Int).toNat).length = ((wrap64 ((ji51) + a1)).toNat - (ji51).toNat) from (by rw [List.length_drop, List.length_take]; have h_ : ((wrap64 ((ji51) + a1)) : Int) ≤ (l3.length : Int) := of_decide_eq_true zA; omega)] <;> rfl) | (simp only [hji47, hji51]; rfl) | rfl | (simp only [List.length_drop, List.length_take]; rfl)) ?_
      with_reducible refine (spec_DotBytes.calls k5 a2_0 a2_1 a5_0 a5_1 _ _ ((l0.take ((wrap64 ((ji47) + a1)) : Int).toNat).drop ((ji47) : Int).toNat) _ _ ((l3.take ((wrap64 ((ji51) + a1)) : Int).toNat).drop ((ji51) : Int).toNat) t251 _ ?side1 ?side2 ?side3 ?side4 A55.out).mono ?_
      (case side1 => repeat (first | exact (Kd.C_below HR249.out HB.out) | (with_reducible refine Kd.C_alloc ?_ _) | (with_reducible refine Kd.C_drewN ?_ _) | (with_reducible refine Kd.C_drew ?_)))
      (case side2 => exact HC249.out)
      (case side3 => repeat (first | exact (Kd.C_below HR250.out HB.out) | (with_reducible refine Kd.C_alloc ?_ _) | (with_reducible refine Kd.C_drewN ?_ _) | (with_reducible refine Kd.C_drew ?_)))
      (case side4 => exact HC250.out)
      rintro e w64 ⟨rfl, hb⟩
      refine ⟨_, rfl, ?_⟩
      have n0_ := zK (Kd.R_below (by (with_reducible repeat (first | apply Kd.R_alloc | apply Kd.R_drewN | apply Kd.R_drew)); exact HO_17.out) hb)
      have n1_ := zK (zg (g := gb234) (o := .cells #[.int .i64 a2_0, .int .i64 a2_1] 45 (0, 0)) (by (with_reducible repeat (first | refine zn ?_ _ | refine zd ?_ | refine za ?_ _)); exact BK234.out) hb)
      have n2_ := zK (zg (g := gb235) (o := .cells #[.int .i64 a5_0, .int .i64 a5_1] 45 (0, 0)) (by (with_reducible repeat (first | refine zn ?_ _ | refine zd ?_ | refine za ?_ _)); exact BK235.out) hb)
      have n3_ := zK (zg (g := gb236) (o := .cells #[.int .i64 a7_0, .int .i64 a7_1] 45 (0, 0)) (by (with_reducible repeat (first | refine zn ?_ _ | refine zd ?_ | refine za ?_ _)); exact BK236.out) hb)
      have n4_ := zK (zp zB hb)
      clear HO_17
      clear BK234
      clear BK235
      clear BK236
      clear HB
      have HO_17 := n0_
      have BK234 := n1_
      have BK235 := n2_
      have BK236 := n3_
      have HB := n4_
      clear n0_ n1_ n2_ n3_ n4_
      (try clear hb)
      (try clear hb2)
      (try clear hk)
      (try clear hi)
      refine hK.out _ _ ⟨(zc BK234.out 0).trans rfl, (zc BK234.out 1).trans rfl, (zc BK235.out 0).trans rfl, (zc BK235.out 1).trans rfl, ((HB.out.cell (World.block_lt_of_cell? w _ hw252_0)).trans hw252_0)⟩ (fun hHeld => ?_)
      clear hK K
      refine norm_ (a' := ?_) ?_ ?_
      rotate_left
      · show Act.put _ (some 140) _ = _
        simp only [Act.put, List.setIfInBounds_toArray, List.set_cons_zero, List.set_cons_succ, i64_w, i32_w]
        rfl
      refine pure_ (i := 27) (N := some 145) (v := ?_) (a' := ?_) #[true, true, true, true, true, true, true, true, true, true, true, true, true, true, true, true, true, true, true, true, true, true, true, true, true, true, true, true, false] rfl rfl (any_of HT_.out (by kernel_rfl)) (fun _ _ _ h => h) (Or.inl ⟨by rfl, ?_⟩) ?_ ?_
      rotate_left
      · intro w'
        go_simp
        with_reducible rfl
      rotate_left
      · simp only [Act.put, List.setIfInBounds_toArray, List.set_cons_zero, List.set_cons_succ, i64_w, i32_w]
        rfl
      refine pure_ (i := 28) (N := some 25) (v := ?_) (a' := ?_) #[true, true, true, true, true, true, true, true, true, true, true, true, true, true, true, true, true, true, true, true, true, true, true, true, true, true, true, true, true] rfl rfl (any_of HT_.out (by kernel_rfl)) (fun _ _ _ h => h) (Or.inl ⟨by rfl, ?_⟩) ?_ ?_
      rotate_left
      · intro w'
        go_simp
        with_reducible rfl
      rotate_left
      · simp only [Act.put, List.setIfInBounds_toArray, List.set_cons_zero, List.set_cons_succ, i64_w, i32_w]
        rfl
      refine done_ (done_of HT_.out (by kernel_rfl)) ?_
      try go_wp2
      have n0_ := zK (Kd.R_drew HO_17.out)
      have n1_ := zK (zd BK234.out)
      have n2_ := zK (zd BK235.out)
      have n3_ := zK (zd BK236.out)
      have n4_ := zK (ze HB.out)
      clear HO_17
      clear BK234
      clear BK235
      clear BK236
      clear HB
      have HO_17 := n0_
      have BK234 := n1_
      have BK235 := n2_
      have BK236 := n3_
      have HB := n4_
      clear n0_ n1_ n2_ n3_ n4_
      refine start_ (n := 10) (S := fun w' => w'.cell? ⟨gb236, 0, none⟩ = some (.int .i64 a7_0) ∧ w'.cell? ⟨gb236, 1, none⟩ = some (.int .i64 a7_1)) (ds := []) #[false, false, false, false, false, false, false, false, false, false] (by kernel_rfl) rfl rfl ⟨(zc BK236.out 0).trans rfl, (zc BK236.out 1).trans rfl⟩ (fun hHeld => ?_); refine with_tabW spec_MatBytes.tab20 spec_MatBytes.bits20 (fun HT_ HW_ => ?_)
      generalize w64.drew = w65 at HO_17 BK234 BK235 BK236 HB hHeld ⊢
      refine pure_ (i := 0) (N := some 146) (v := ?_) (a' := ?_) #[true, false, false, false, false, false, false, false, false, false] rfl rfl (any_of HT_.out (by kernel_rfl)) (fun _ _ _ h => h) (Or.inl ⟨by rfl, ?_⟩) ?_ ?_
      rotate_left
      · intro w'
        go_simp
        with_reducible rfl
      rotate_left
      · simp only [Act.put, List.setIfInBounds_toArray, List.set_cons_zero, List.set_cons_succ, i64_w, i32_w]
        rfl
      refine pure_ (i := 1) (N := some 147) (v := ?_) (a' := ?_) #[true, true, false, false, false, false, false, false, false, false] rfl rfl (any_of HT_.out (by kernel_rfl)) (fun _ _ _ h => h) (Or.inl ⟨by rfl, ?_⟩) ?_ ?_
      rotate_left
      · intro w'
        go_simp
        with_reducible rfl
      rotate_left
      · simp only [Act.put, List.setIfInBounds_toArray, List.set_cons_zero, List.set_cons_succ, i64_w, i32_w]
        rfl
      refine pure_ (i := 3) (N := some 149) (v := ?_) (a' := ?_) #[true, true, false, true, false, false, false, false, false, false] rfl rfl (any_of HT_.out (by kernel_rfl)) (fun _ _ _ h => h) (Or.inl ⟨by rfl, ?_⟩) ?_ ?_
      rotate_left
      · intro w'
        go_simp
        with_reducible rfl
      rotate_left
      · simp only [Act.put, List.setIfInBounds_toArray, List.set_cons_zero, List.set_cons_succ, i64_w, i32_w]
        rfl
      refine pure_ (i := 4) (N := some 150) (v := ?_) (a' := ?_) #[true, true, false, true, true, false, false, false, false, false] rfl rfl (any_of HT_.out (by kernel_rfl)) (fun _ _ _ h => h) (Or.inl ⟨by rfl, ?_⟩) ?_ ?_
      rotate_left
      · intro w'
        go_simp
        with_reducible rfl
      rotate_left
      · simp only [Act.put, List.setIfInBounds_toArray, List.set_cons_zero, List.set_cons_succ, i64_w, i32_w]
        rfl
      refine take_ (i := 5) (N := some 151) (v := ?_) (a' := ?_) #[true, true, false, true, true, true, false, false, false, false] rfl rfl (take_ofW HT_.out HW_.out (by kernel_rfl)) (fun _ _ _ h => h) (Or.inl ⟨by rfl, ?_⟩) hHeld ?_ ?_
      rotate_left
      · rintro w' ⟨s0, s1⟩
        go_simp
        with_reducible rfl
      rotate_left
      · simp only [Act.put, List.setIfInBounds_toArray, List.set_cons_zero, List.set_cons_succ, i64_w, i32_w]
        rfl
      refine one_ (i := 2) (N := some 148) #[true, true, true, true, true, true, false, false, false, false] rfl rfl (one_of HT_.out (by kernel_rfl)) (by decide) (fun K hK => ?_)
      refine goes_ Try.func75 (by kernel_rfl) rfl #[.int .i64 (wrap64 (t251 + (rd l6 x24_5))), .int .i64 (-1073741824), .int .i64 1073741824] (by rfl) rfl rfl zL ?_
      with_reducible refine (spec_l14Clip.calls (wrap64 (t251 + (rd l6 x24_5))) (-1073741824) 1073741824 t253 _ A58.out).mono ?_
      rintro e w' ⟨rfl, ⟨nd, rfl⟩⟩
      refine ⟨_, rfl, ?_⟩
      refine hK.out _ _ ⟨(zc BK236.out 0).trans rfl, (zc BK236.out 1).trans rfl⟩ (fun hHeld => ?_)
      clear hK K
      refine norm_ (a' := ?_) ?_ ?_
      rotate_left
      · show Act.put _ (some 148) _ = _
        simp only [Act.put, List.setIfInBounds_toArray, List.set_cons_zero, List.set_cons_succ, i64_w, i32_w]
        rfl
      refine one_ (i := 6) (N := some 152) #[true, true, true, true, true, true, true, false, false, false] rfl rfl (one_of HT_.out (by kernel_rfl)) (by decide) (fun K hK => ?_)
      refine goes_ Try.func74 (by kernel_rfl) rfl #[.int .i64 t253, .int .i64 t240, .int .i64 t241, .agg #[.int .i64 a7_0, .int .i64 a7_1]] (by rfl) rfl rfl zL ?_
      with_reducible refine (spec_Requant.calls k5 t253 t240 t241 a7_0 a7_1 t254 _ A59.out).mono ?_
      rintro e w66 ⟨rfl, hb⟩
      refine ⟨_, rfl, ?_⟩
      have n0_ := zK (Kd.R_below (by (with_reducible repeat (first | apply Kd.R_alloc | apply Kd.R_drewN | apply Kd.R_drew)); exact HO_17.out) hb)
      have n1_ := zK (zg (g := gb234) (o := .cells #[.int .i64 a2_0, .int .i64 a2_1] 45 (0, 0)) (by (with_reducible repeat (first | refine zn ?_ _ | refine zd ?_ | refine za ?_ _)); exact BK234.out) hb)
      have n2_ := zK (zg (g := gb235) (o := .cells #[.int .i64 a5_0, .int .i64 a5_1] 45 (0, 0)) (by (with_reducible repeat (first | refine zn ?_ _ | refine zd ?_ | refine za ?_ _)); exact BK235.out) hb)
      have n3_ := zK (zg (g := gb236) (o := .cells #[.int .i64 a7_0, .int .i64 a7_1] 45 (0, 0)) (by (with_reducible repeat (first | refine zn ?_ _ | refine zd ?_ | refine za ?_ _)); exact BK236.out) hb)
      have n4_ := zK (zp zB hb)
      clear HO_17
      clear BK234
      clear BK235
      clear BK236
      clear HB
      have HO_17 := n0_
      have BK234 := n1_
      have BK235 := n2_
      have BK236 := n3_
      have HB := n4_
      clear n0_ n1_ n2_ n3_ n4_
      (try clear hb)
      (try clear hb2)
      (try clear hk)
      (try clear hi)
      refine hK.out _ _ ⟨(zc BK236.out 0).trans rfl, (zc BK236.out 1).trans rfl⟩ (fun hHeld => ?_)
      clear hK K
      refine norm_ (a' := ?_) ?_ ?_
      rotate_left
      · show Act.put _ (some 152) _ = _
        simp only [Act.put, List.setIfInBounds_toArray, List.set_cons_zero, List.set_cons_succ, i64_w, i32_w]
        rfl
      refine one_ (i := 7) (N := some 153) #[true, true, true, true, true, true, true, true, false, false] rfl rfl (one_of HT_.out (by kernel_rfl)) (by decide) (fun K hK => ?_)
      refine value_ (w1 := ?_) (v := ?_) (by rfl) rfl ?_ ?_
      rotate_left 2
      · go_simp
        constructor
        · rfl
        · rfl
      refine hK.out _ _ ⟨(zc (za BK236.out _) 0).trans rfl, (zc (za BK236.out _) 1).trans rfl⟩ (fun hHeld => ?_)
      clear hK K
      refine norm_ (a' := ?_) ?_ ?_
      rotate_left
      · show Act.put _ (some 153) _ = _
        simp only [Act.put, List.setIfInBounds_toArray, List.set_cons_zero, List.set_cons_succ, i64_w, i32_w]
        rfl
      refine one_ (i := 8) (N := some 154) #[true, true, true, true, true, true, true, true, true, false] rfl rfl (one_of HT_.out (by kernel_rfl)) (by decide) (fun K hK => ?_)
      refine Kd.R_append_step (Kd.int .i64) (w0 := w) w.heap.size (by rfl) (.tmp 146) (.tmp 153) 22 3 (.int .i64 0) 8 rfl Try.underlying22 info3 rfl (by decide) (by omega) u17 x17_5 t254 [.int .i64 t254] (fun _ => True) (fun _ => False) rfl rfl ?aP (fun _ hk => hk.elim) ?aF ?aO ?aB ?aS ?aL ?_
      (case aP => exact rfl)
      (case aB => exact zB)
      (case aF => exact (fun _ _ => trivial))
      (case aO => exact (by (with_reducible repeat (first | apply Kd.R_alloc | apply Kd.R_drewN | apply Kd.R_drew)); exact HO_17.out))
      (case aS => exact (zz zB))
      (case aL => have := LMc60.out; omega)
      intro v256 w67 ho hb hg hat
      rw [← Ny255.out] at ho
      have n0_ := zK (blk_grown (g := gb234) (o := .cells #[.int .i64 a2_0, .int .i64 a2_1] 45 (0, 0)) (by (with_reducible repeat (first | refine zn ?_ _ | refine zd ?_ | refine za ?_ _)); exact BK234.out) hg (Kd.R_ne HO_17.out BK234.out (by decide)))
      have n1_ := zK (blk_grown (g := gb235) (o := .cells #[.int .i64 a5_0, .int .i64 a5_1] 45 (0, 0)) (by (with_reducible repeat (first | refine zn ?_ _ | refine zd ?_ | refine za ?_ _)); exact BK235.out) hg (Kd.R_ne HO_17.out BK235.out (by decide)))
      have n2_ := zK (blk_grown (g := gb236) (o := .cells #[.int .i64 a7_0, .int .i64 a7_1] 45 (0, 0)) (by (with_reducible repeat (first | refine zn ?_ _ | refine zd ?_ | refine za ?_ _)); exact BK236.out) hg (Kd.R_ne HO_17.out BK236.out (by decide)))
      have n3_ := zK (hb)
      have n4_ := zK (ho)
      clear BK234
      clear BK235
      clear BK236
      clear HB
      clear HO_17
      have BK234 := n0_
      have BK235 := n1_
      have BK236 := n2_
      have HB := n3_
      have HO257 := n4_
      clear n0_ n1_ n2_ n3_ n4_
      clear ho hb hg hat
      refine hK.out _ _ ⟨(zc BK236.out 0).trans rfl, (zc BK236.out 1).trans rfl⟩ (fun hHeld => ?_)
      clear hK K
      refine norm_ (a' := ?_) ?_ ?_
      rotate_left
      · show Act.put _ (some 154) _ = _
        simp only [Act.put, List.setIfInBounds_toArray, List.set_cons_zero, List.set_cons_succ, i64_w, i32_w]
        rfl
      refine pure_ (i := 9) (N := some 17) (v := ?_) (a' := ?_) #[true, true, true, true, true, true, true, true, true, true] rfl rfl (any_of HT_.out (by kernel_rfl)) (fun _ _ _ h => h) (Or.inl ⟨by rfl, ?_⟩) ?_ ?_
      rotate_left
      · intro w'
        go_simp
        with_reducible rfl
      rotate_left
      · simp only [Act.put, List.setIfInBounds_toArray, List.set_cons_zero, List.set_cons_succ, i64_w, i32_w]
        rfl
      refine done_ (done_of HT_.out (by kernel_rfl)) ?_
      try go_wp2
      go_roundg k5
      case measure => have := HJ9.out; have := HJ36.out; have := HK3.out; have := HK4.out; have := HK5.out; omega
      case rel => exact ⟨(y255), (wrap64 (x24_5 + 1)), zR, H', ⟨by have := HJ9.out; have := HJ36.out; have := HK3.out; have := HK4.out; have := HK5.out; omega⟩, ⟨by (with_reducible repeat (first | apply Kd.R_alloc | apply Kd.R_drewN | apply Kd.R_drew)); exact HO257.out⟩, ⟨by (with_reducible repeat (first | refine zn ?_ _ | refine zd ?_ | refine za ?_ _)); exact BK234.out⟩, ⟨by (with_reducible repeat (first | refine zn ?_ _ | refine zd ?_ | refine za ?_ _)); exact BK235.out⟩, ⟨by (with_reducible repeat (first | refine zn ?_ _ | refine zd ?_ | refine za ?_ _)); exact BK236.out⟩, ⟨zB⟩⟩

end Go.Proofs.Ytemcipcijhkhjaa.PFnMatBound
