-- Printed out of the translation by this session's own turned copy of a printer; Lean checks it.
import Derived.Test.YtemcipcijhkhjaaPFnMatBoundx0
import Derived.Test.YtemcipcijhkhjaaPFnMatBoundx1
import Derived.Test.YtemcipcijhkhjaaPFnMatBoundx4
import Derived.Test.YtemcipcijhkhjaaPFnMatBoundx5
namespace Go.Proofs.Ytemcipcijhkhjaa.PFnMatBound
open Go.RowKit Go.Proofs.YtemcipcijhkhjaaW.PrintWords Go.Proofs.YtemcipcijhkhjaaW.PrintLast Go.Proofs.YtemcipcijhkhjaaW.PrintMore
attribute [local go_sem] max2_int min2_int max_two min_two max_three min_three max_four min_four   -- for this text's walks alone
set_option linter.unusedVariables false
set_option linter.unusedSimpArgs false

/-! ### impl_MatBytes: function 18 -/
mutual
def impl_MatBytes.j0 : Nat → List Int → Int → List Int → Int → List Int → Int → Int → Bool → Int → Int → Int → Int → Int → Int → Option (List Int)
  | 0, _, _, _, _, _, _, _, _, _, _, _, _, _, _ => none
  | k + 1, x0, x1, x3, x4, x6, x17, x18, x71, x166000, x166001, x167000, x167001, x168000, x168001 => if x71 = true then (some ([] : List Int)) else (if x1 = 0 then (none) else (if (wrap64 ((x0.length : Int) / x1)) > 4096 then (impl_MatBytes.j1 k x0 x1 x3 x4 x6 x17 x18 (wrap64 ((x0.length : Int) / x1)) true x166000 x166001 x167000 x167001 x168000 x168001) else (if (wrap64 ((wrap64 ((x0.length : Int) / x1)) * x4)) > 4096 then (impl_MatBytes.j1 k x0 x1 x3 x4 x6 x17 x18 (wrap64 ((x0.length : Int) / x1)) true x166000 x166001 x167000 x167001 x168000 x168001) else (impl_MatBytes.j1 k x0 x1 x3 x4 x6 x17 x18 (wrap64 ((x0.length : Int) / x1)) (decide ((wrap64 ((wrap64 ((wrap64 ((x0.length : Int) / x1)) * x4)) * x1)) > 65536)) x166000 x166001 x167000 x167001 x168000 x168001))))
def impl_MatBytes.j1 : Nat → List Int → Int → List Int → Int → List Int → Int → Int → Int → Bool → Int → Int → Int → Int → Int → Int → Option (List Int)
  | 0, _, _, _, _, _, _, _, _, _, _, _, _, _, _, _ => none
  | k + 1, x0, x1, x3, x4, x6, x17, x18, x20, x91, x166000, x166001, x167000, x167001, x168000, x168001 => if x91 = true then (some ([] : List Int)) else ((some (([x0, x3] : List (List Int)) : List (List Int))).bind fun y173 => (impl_MatBytes.l0 k x0 x1 x3 x4 x6 x17 x18 x20 y173 (y173.length : Int) 0 x166000 x166001 x167000 x167001 x168000 x168001))
def impl_MatBytes.l0 : Nat → List Int → Int → List Int → Int → List Int → Int → Int → Int → List (List Int) → Int → Int → Int → Int → Int → Int → Int → Int → Option (List Int)
  | 0, _, _, _, _, _, _, _, _, _, _, _, _, _, _, _, _, _ => none
  | k + 1, x0, x1, x3, x4, x6, x17, x18, x20, x94, x95, x96, x166000, x166001, x167000, x167001, x168000, x168001 => if x96 < x95 then (if 0 ≤ x96 then (if x96 < (x94.length : Int) then (impl_MatBytes.l1 k x0 x1 x3 x4 x6 x17 x18 x20 x94 x95 x96 (rd_L3 x94 x96) ((rd_L3 x94 x96).length : Int) 0 x166000 x166001 x167000 x167001 x168000 x168001) else (none)) else (none)) else (impl_MatBytes.l2 k x0 x1 x3 x4 x6 x17 x18 x20 x6 (x6.length : Int) 0 x166000 x166001 x167000 x167001 x168000 x168001)
def impl_MatBytes.l1 : Nat → List Int → Int → List Int → Int → List Int → Int → Int → Int → List (List Int) → Int → Int → List Int → Int → Int → Int → Int → Int → Int → Int → Int → Option (List Int)
  | 0, _, _, _, _, _, _, _, _, _, _, _, _, _, _, _, _, _, _, _, _ => none
  | k + 1, x0, x1, x3, x4, x6, x17, x18, x20, x94, x95, x96, x100, x101, x102, x166000, x166001, x167000, x167001, x168000, x168001 => if x102 < x101 then (if 0 ≤ x102 then (if x102 < (x100.length : Int) then ((impl_isByte.f (rd x100 x102)).bind fun t178 => (if t178 = true then (impl_MatBytes.l1 k x0 x1 x3 x4 x6 x17 x18 x20 x94 x95 x96 x100 x101 (wrap64 (x102 + 1)) x166000 x166001 x167000 x167001 x168000 x168001) else (some ([] : List Int)))) else (none)) else (none)) else (impl_MatBytes.l0 k x0 x1 x3 x4 x6 x17 x18 x20 x94 x95 (wrap64 (x96 + 1)) x166000 x166001 x167000 x167001 x168000 x168001)
def impl_MatBytes.l2 : Nat → List Int → Int → List Int → Int → List Int → Int → Int → Int → List Int → Int → Int → Int → Int → Int → Int → Int → Int → Option (List Int)
  | 0, _, _, _, _, _, _, _, _, _, _, _, _, _, _, _, _, _ => none
  | k + 1, x0, x1, x3, x4, x6, x17, x18, x20, x111, x112, x113, x166000, x166001, x167000, x167001, x168000, x168001 => if x113 < x112 then (if 0 ≤ x113 then (if x113 < (x111.length : Int) then ((impl_within.f (rd x111 x113) (-1073741824) 1073741824).bind fun t180 => (if t180 = true then (impl_MatBytes.l2 k x0 x1 x3 x4 x6 x17 x18 x20 x111 x112 (wrap64 (x113 + 1)) x166000 x166001 x167000 x167001 x168000 x168001) else (some ([] : List Int)))) else (none)) else (none)) else (impl_MatBytes.l3 k x0 x1 x3 x4 x6 x17 x18 (([] : List Int)) x20 0 x166000 x166001 x167000 x167001 x168000 x168001)
def impl_MatBytes.l3 : Nat → List Int → Int → List Int → Int → List Int → Int → Int → List Int → Int → Int → Int → Int → Int → Int → Int → Int → Option (List Int)
  | 0, _, _, _, _, _, _, _, _, _, _, _, _, _, _, _, _ => none
  | k + 1, x0, x1, x3, x4, x6, x17, x18, x27, x122, x123, x166000, x166001, x167000, x167001, x168000, x168001 => if x123 < x122 then (impl_MatBytes.l4 k x0 x1 x3 x4 x6 x17 x18 x27 x123 x122 x123 x4 0 x166000 x166001 x167000 x167001 x168000 x168001) else (some x27)
def impl_MatBytes.l4 : Nat → List Int → Int → List Int → Int → List Int → Int → Int → List Int → Int → Int → Int → Int → Int → Int → Int → Int → Int → Int → Int → Option (List Int)
  | 0, _, _, _, _, _, _, _, _, _, _, _, _, _, _, _, _, _, _, _ => none
  | k + 1, x0, x1, x3, x4, x6, x17, x18, x27, x28, x122, x123, x126, x127, x166000, x166001, x167000, x167001, x168000, x168001 => if x127 < x126 then (if 0 ≤ (wrap64 (x28 * x1)) then (if (wrap64 (x28 * x1)) ≤ (wrap64 ((wrap64 (x28 + 1)) * x1)) then (if (wrap64 ((wrap64 (x28 + 1)) * x1)) ≤ (x0.length : Int) then (if 0 ≤ (wrap64 (x127 * x1)) then (if (wrap64 (x127 * x1)) ≤ (wrap64 ((wrap64 (x127 + 1)) * x1)) then (if (wrap64 ((wrap64 (x127 + 1)) * x1)) ≤ (x3.length : Int) then ((impl_DotBytes.f k x166000 x166001 x167000 x167001 ((x0.take ((wrap64 ((wrap64 (x28 + 1)) * x1)) : Int).toNat).drop ((wrap64 (x28 * x1)) : Int).toNat) ((x3.take ((wrap64 ((wrap64 (x127 + 1)) * x1)) : Int).toNat).drop ((wrap64 (x127 * x1)) : Int).toNat)).bind fun t194 => (if 0 ≤ x127 then (if x127 < (x6.length : Int) then ((impl_bring_int.f (wrap64 (t194 + (rd x6 x127))) (-1073741824) 1073741824).bind fun t196 => ((impl_Requant.f k t196 x17 x18 x168000 x168001).bind fun t197 => (if x27.length < 17592186044416 then (impl_MatBytes.l4 k x0 x1 x3 x4 x6 x17 x18 (x27 ++ [t197]) x28 x122 x123 x126 (wrap64 (x127 + 1)) x166000 x166001 x167000 x167001 x168000 x168001) else (none)))) else (none)) else (none))) else (none)) else (none)) else (none)) else (none)) else (none)) else (none)) else (impl_MatBytes.l3 k x0 x1 x3 x4 x6 x17 x18 x27 x122 (wrap64 (x123 + 1)) x166000 x166001 x167000 x167001 x168000 x168001)
end
def impl_MatBytes.f (k : Nat) (l0 : List Int) (a1 : Int) (a2_0 : Int) (a2_1 : Int) (l3 : List Int) (a4 : Int) (a5_0 : Int) (a5_1 : Int) (l6 : List Int) (a7_0 : Int) (a7_1 : Int) : Option (List Int) := (impl_Factor.f k a2_0 a2_1 a5_0 a5_1 a7_0 a7_1).bind fun bt168 => (if bt168.2.2 = true then ((impl_within.f a1 1 4096).bind fun t171 => (if t171 = true then ((impl_within.f a4 1 4096).bind fun t172 => (if t172 = true then (if a1 = 0 then (none) else (if ((l0.length : Int) % a1) = 0 then (if (l3.length : Int) = (wrap64 (a4 * a1)) then (impl_MatBytes.j0 k l0 a1 l3 a4 l6 bt168.1 bt168.2.1 ((l6.length : Int) != a4) a2_0 a2_1 a5_0 a5_1 a7_0 a7_1) else (impl_MatBytes.j0 k l0 a1 l3 a4 l6 bt168.1 bt168.2.1 true a2_0 a2_1 a5_0 a5_1 a7_0 a7_1)) else (impl_MatBytes.j0 k l0 a1 l3 a4 l6 bt168.1 bt168.2.1 true a2_0 a2_1 a5_0 a5_1 a7_0 a7_1))) else (impl_MatBytes.j0 k l0 a1 l3 a4 l6 bt168.1 bt168.2.1 true a2_0 a2_1 a5_0 a5_1 a7_0 a7_1))) else (impl_MatBytes.j0 k l0 a1 l3 a4 l6 bt168.1 bt168.2.1 true a2_0 a2_1 a5_0 a5_1 a7_0 a7_1))) else (impl_MatBytes.j0 k l0 a1 l3 a4 l6 bt168.1 bt168.2.1 true a2_0 a2_1 a5_0 a5_1 a7_0 a7_1))
theorem impl_MatBytes.mono_l : ∀ k, (∀ y0 y1 y2 y3 y4 y5 y6 y7 y8 y9 y10 y11 y12 y13, LeO (impl_MatBytes.j0 k y0 y1 y2 y3 y4 y5 y6 y7 y8 y9 y10 y11 y12 y13) (impl_MatBytes.j0 (k + 1) y0 y1 y2 y3 y4 y5 y6 y7 y8 y9 y10 y11 y12 y13)) ∧ (∀ y0 y1 y2 y3 y4 y5 y6 y7 y8 y9 y10 y11 y12 y13 y14, LeO (impl_MatBytes.j1 k y0 y1 y2 y3 y4 y5 y6 y7 y8 y9 y10 y11 y12 y13 y14) (impl_MatBytes.j1 (k + 1) y0 y1 y2 y3 y4 y5 y6 y7 y8 y9 y10 y11 y12 y13 y14)) ∧ (∀ y0 y1 y2 y3 y4 y5 y6 y7 y8 y9 y10 y11 y12 y13 y14 y15 y16, LeO (impl_MatBytes.l0 k y0 y1 y2 y3 y4 y5 y6 y7 y8 y9 y10 y11 y12 y13 y14 y15 y16) (impl_MatBytes.l0 (k + 1) y0 y1 y2 y3 y4 y5 y6 y7 y8 y9 y10 y11 y12 y13 y14 y15 y16)) ∧ (∀ y0 y1 y2 y3 y4 y5 y6 y7 y8 y9 y10 y11 y12 y13 y14 y15 y16 y17 y18 y19, LeO (impl_MatBytes.l1 k y0 y1 y2 y3 y4 y5 y6 y7 y8 y9 y10 y11 y12 y13 y14 y15 y16 y17 y18 y19) (impl_MatBytes.l1 (k + 1) y0 y1 y2 y3 y4 y5 y6 y7 y8 y9 y10 y11 y12 y13 y14 y15 y16 y17 y18 y19)) ∧ (∀ y0 y1 y2 y3 y4 y5 y6 y7 y8 y9 y10 y11 y12 y13 y14 y15 y16, LeO (impl_MatBytes.l2 k y0 y1 y2 y3 y4 y5 y6 y7 y8 y9 y10 y11 y12 y13 y14 y15 y16) (impl_MatBytes.l2 (k + 1) y0 y1 y2 y3 y4 y5 y6 y7 y8 y9 y10 y11 y12 y13 y14 y15 y16)) ∧ (∀ y0 y1 y2 y3 y4 y5 y6 y7 y8 y9 y10 y11 y12 y13 y14 y15, LeO (impl_MatBytes.l3 k y0 y1 y2 y3 y4 y5 y6 y7 y8 y9 y10 y11 y12 y13 y14 y15) (impl_MatBytes.l3 (k + 1) y0 y1 y2 y3 y4 y5 y6 y7 y8 y9 y10 y11 y12 y13 y14 y15)) ∧ (∀ y0 y1 y2 y3 y4 y5 y6 y7 y8 y9 y10 y11 y12 y13 y14 y15 y16 y17 y18, LeO (impl_MatBytes.l4 k y0 y1 y2 y3 y4 y5 y6 y7 y8 y9 y10 y11 y12 y13 y14 y15 y16 y17 y18) (impl_MatBytes.l4 (k + 1) y0 y1 y2 y3 y4 y5 y6 y7 y8 y9 y10 y11 y12 y13 y14 y15 y16 y17 y18))
  | 0 => ⟨fun _ _ _ _ _ _ _ _ _ _ _ _ _ _ r h => by simp [impl_MatBytes.j0] at h, fun _ _ _ _ _ _ _ _ _ _ _ _ _ _ _ r h => by simp [impl_MatBytes.j1] at h, fun _ _ _ _ _ _ _ _ _ _ _ _ _ _ _ _ _ r h => by simp [impl_MatBytes.l0] at h, fun _ _ _ _ _ _ _ _ _ _ _ _ _ _ _ _ _ _ _ _ r h => by simp [impl_MatBytes.l1] at h, fun _ _ _ _ _ _ _ _ _ _ _ _ _ _ _ _ _ r h => by simp [impl_MatBytes.l2] at h, fun _ _ _ _ _ _ _ _ _ _ _ _ _ _ _ _ r h => by simp [impl_MatBytes.l3] at h, fun _ _ _ _ _ _ _ _ _ _ _ _ _ _ _ _ _ _ _ r h => by simp [impl_MatBytes.l4] at h⟩
  | k + 1 => by
    obtain ⟨ih0, ih1, ih2, ih3, ih4, ih5, ih6⟩ := impl_MatBytes.mono_l k
    refine ⟨?_, ?_, ?_, ?_, ?_, ?_, ?_⟩
    · intro y0 y1 y2 y3 y4 y5 y6 y7 y8 y9 y10 y11 y12 y13
      unfold impl_MatBytes.j0
      repeat' first
      | (with_reducible exact ih0 _ _ _ _ _ _ _ _ _ _ _ _ _ _)
      | (with_reducible exact ih1 _ _ _ _ _ _ _ _ _ _ _ _ _ _ _)
      | (with_reducible exact ih2 _ _ _ _ _ _ _ _ _ _ _ _ _ _ _ _ _)
      | (with_reducible exact ih3 _ _ _ _ _ _ _ _ _ _ _ _ _ _ _ _ _ _ _ _)
      | (with_reducible exact ih4 _ _ _ _ _ _ _ _ _ _ _ _ _ _ _ _ _)
      | (with_reducible exact ih5 _ _ _ _ _ _ _ _ _ _ _ _ _ _ _ _)
      | (with_reducible exact ih6 _ _ _ _ _ _ _ _ _ _ _ _ _ _ _ _ _ _ _)
      | (with_reducible exact impl_DotBytes.mono _ _ _ _ _ _ _)
      | (with_reducible exact impl_Factor.mono _ _ _ _ _ _ _)
      | (with_reducible exact impl_Requant.mono _ _ _ _ _ _)
      | (with_reducible exact LeO.refl _)
      | (with_reducible exact LeO.none _)
      | (with_reducible refine LeO.ite ?_ ?_)
      | (with_reducible refine LeO.bind ?_ (fun _ => ?_))
      | exact ih0 _ _ _ _ _ _ _ _ _ _ _ _ _ _
      | exact ih1 _ _ _ _ _ _ _ _ _ _ _ _ _ _ _
      | exact ih2 _ _ _ _ _ _ _ _ _ _ _ _ _ _ _ _ _
      | exact ih3 _ _ _ _ _ _ _ _ _ _ _ _ _ _ _ _ _ _ _ _
      | exact ih4 _ _ _ _ _ _ _ _ _ _ _ _ _ _ _ _ _
      | exact ih5 _ _ _ _ _ _ _ _ _ _ _ _ _ _ _ _
      | exact ih6 _ _ _ _ _ _ _ _ _ _ _ _ _ _ _ _ _ _ _
      | exact impl_DotBytes.mono _ _ _ _ _ _ _
      | exact impl_Factor.mono _ _ _ _ _ _ _
      | exact impl_Requant.mono _ _ _ _ _ _
      | exact LeO.none _
      | refine LeO.ite ?_ ?_
      | refine LeO.bind ?_ (fun _ => ?_)
    · intro y0 y1 y2 y3 y4 y5 y6 y7 y8 y9 y10 y11 y12 y13 y14
      unfold impl_MatBytes.j1
      repeat' first
      | (with_reducible exact ih0 _ _ _ _ _ _ _ _ _ _ _ _ _ _)
      | (with_reducible exact ih1 _ _ _ _ _ _ _ _ _ _ _ _ _ _ _)
      | (with_reducible exact ih2 _ _ _ _ _ _ _ _ _ _ _ _ _ _ _ _ _)
      | (with_reducible exact ih3 _ _ _ _ _ _ _ _ _ _ _ _ _ _ _ _ _ _ _ _)
      | (with_reducible exact ih4 _ _ _ _ _ _ _ _ _ _ _ _ _ _ _ _ _)
      | (with_reducible exact ih5 _ _ _ _ _ _ _ _ _ _ _ _ _ _ _ _)
      | (with_reducible exact ih6 _ _ _ _ _ _ _ _ _ _ _ _ _ _ _ _ _ _ _)
      | (with_reducible exact impl_DotBytes.mono _ _ _ _ _ _ _)
      | (with_reducible exact impl_Factor.mono _ _ _ _ _ _ _)
      | (with_reducible exact impl_Requant.mono _ _ _ _ _ _)
      | (with_reducible exact LeO.refl _)
      | (with_reducible exact LeO.none _)
      | (with_reducible refine LeO.ite ?_ ?_)
      | (with_reducible refine LeO.bind ?_ (fun _ => ?_))
      | exact ih0 _ _ _ _ _ _ _ _ _ _ _ _ _ _
      | exact ih1 _ _ _ _ _ _ _ _ _ _ _ _ _ _ _
      | exact ih2 _ _ _ _ _ _ _ _ _ _ _ _ _ _ _ _ _
      | exact ih3 _ _ _ _ _ _ _ _ _ _ _ _ _ _ _ _ _ _ _ _
      | exact ih4 _ _ _ _ _ _ _ _ _ _ _ _ _ _ _ _ _
      | exact ih5 _ _ _ _ _ _ _ _ _ _ _ _ _ _ _ _
      | exact ih6 _ _ _ _ _ _ _ _ _ _ _ _ _ _ _ _ _ _ _
      | exact impl_DotBytes.mono _ _ _ _ _ _ _
      | exact impl_Factor.mono _ _ _ _ _ _ _
      | exact impl_Requant.mono _ _ _ _ _ _
      | exact LeO.none _
      | refine LeO.ite ?_ ?_
      | refine LeO.bind ?_ (fun _ => ?_)
    · intro y0 y1 y2 y3 y4 y5 y6 y7 y8 y9 y10 y11 y12 y13 y14 y15 y16
      unfold impl_MatBytes.l0
      repeat' first
      | (with_reducible exact ih0 _ _ _ _ _ _ _ _ _ _ _ _ _ _)
      | (with_reducible exact ih1 _ _ _ _ _ _ _ _ _ _ _ _ _ _ _)
      | (with_reducible exact ih2 _ _ _ _ _ _ _ _ _ _ _ _ _ _ _ _ _)
      | (with_reducible exact ih3 _ _ _ _ _ _ _ _ _ _ _ _ _ _ _ _ _ _ _ _)
      | (with_reducible exact ih4 _ _ _ _ _ _ _ _ _ _ _ _ _ _ _ _ _)
      | (with_reducible exact ih5 _ _ _ _ _ _ _ _ _ _ _ _ _ _ _ _)
      | (with_reducible exact ih6 _ _ _ _ _ _ _ _ _ _ _ _ _ _ _ _ _ _ _)
      | (with_reducible exact impl_DotBytes.mono _ _ _ _ _ _ _)
      | (with_reducible exact impl_Factor.mono _ _ _ _ _ _ _)
      | (with_reducible exact impl_Requant.mono _ _ _ _ _ _)
      | (with_reducible exact LeO.refl _)
      | (with_reducible exact LeO.none _)
      | (with_reducible refine LeO.ite ?_ ?_)
      | (with_reducible refine LeO.bind ?_ (fun _ => ?_))
      | exact ih0 _ _ _ _ _ _ _ _ _ _ _ _ _ _
      | exact ih1 _ _ _ _ _ _ _ _ _ _ _ _ _ _ _
      | exact ih2 _ _ _ _ _ _ _ _ _ _ _ _ _ _ _ _ _
      | exact ih3 _ _ _ _ _ _ _ _ _ _ _ _ _ _ _ _ _ _ _ _
      | exact ih4 _ _ _ _ _ _ _ _ _ _ _ _ _ _ _ _ _
      | exact ih5 _ _ _ _ _ _ _ _ _ _ _ _ _ _ _ _
      | exact ih6 _ _ _ _ _ _ _ _ _ _ _ _ _ _ _ _ _ _ _
      | exact impl_DotBytes.mono _ _ _ _ _ _ _
      | exact impl_Factor.mono _ _ _ _ _ _ _
      | exact impl_Requant.mono _ _ _ _ _ _
      | exact LeO.none _
      | refine LeO.ite ?_ ?_
      | refine LeO.bind ?_ (fun _ => ?_)
    · intro y0 y1 y2 y3 y4 y5 y6 y7 y8 y9 y10 y11 y12 y13 y14 y15 y16 y17 y18 y19
      unfold impl_MatBytes.l1
      repeat' first
      | (with_reducible exact ih0 _ _ _ _ _ _ _ _ _ _ _ _ _ _)
      | (with_reducible exact ih1 _ _ _ _ _ _ _ _ _ _ _ _ _ _ _)
      | (with_reducible exact ih2 _ _ _ _ _ _ _ _ _ _ _ _ _ _ _ _ _)
      | (with_reducible exact ih3 _ _ _ _ _ _ _ _ _ _ _ _ _ _ _ _ _ _ _ _)
      | (with_reducible exact ih4 _ _ _ _ _ _ _ _ _ _ _ _ _ _ _ _ _)
      | (with_reducible exact ih5 _ _ _ _ _ _ _ _ _ _ _ _ _ _ _ _)
      | (with_reducible exact ih6 _ _ _ _ _ _ _ _ _ _ _ _ _ _ _ _ _ _ _)
      | (with_reducible exact impl_DotBytes.mono _ _ _ _ _ _ _)
      | (with_reducible exact impl_Factor.mono _ _ _ _ _ _ _)
      | (with_reducible exact impl_Requant.mono _ _ _ _ _ _)
      | (with_reducible exact LeO.refl _)
      | (with_reducible exact LeO.none _)
      | (with_reducible refine LeO.ite ?_ ?_)
      | (with_reducible refine LeO.bind ?_ (fun _ => ?_))
      | exact ih0 _ _ _ _ _ _ _ _ _ _ _ _ _ _
      | exact ih1 _ _ _ _ _ _ _ _ _ _ _ _ _ _ _
      | exact ih2 _ _ _ _ _ _ _ _ _ _ _ _ _ _ _ _ _
      | exact ih3 _ _ _ _ _ _ _ _ _ _ _ _ _ _ _ _ _ _ _ _
      | exact ih4 _ _ _ _ _ _ _ _ _ _ _ _ _ _ _ _ _
      | exact ih5 _ _ _ _ _ _ _ _ _ _ _ _ _ _ _ _
      | exact ih6 _ _ _ _ _ _ _ _ _ _ _ _ _ _ _ _ _ _ _
      | exact impl_DotBytes.mono _ _ _ _ _ _ _
      | exact impl_Factor.mono _ _ _ _ _ _ _
      | exact impl_Requant.mono _ _ _ _ _ _
      | exact LeO.none _
      | refine LeO.ite ?_ ?_
      | refine LeO.bind ?_ (fun _ => ?_)
    · intro y0 y1 y2 y3 y4 y5 y6 y7 y8 y9 y10 y11 y12 y13 y14 y15 y16
      unfold impl_MatBytes.l2
      repeat' first
      | (with_reducible exact ih0 _ _ _ _ _ _ _ _ _ _ _ _ _ _)
      | (with_reducible exact ih1 _ _ _ _ _ _ _ _ _ _ _ _ _ _ _)
      | (with_reducible exact ih2 _ _ _ _ _ _ _ _ _ _ _ _ _ _ _ _ _)
      | (with_reducible exact ih3 _ _ _ _ _ _ _ _ _ _ _ _ _ _ _ _ _ _ _ _)
      | (with_reducible exact ih4 _ _ _ _ _ _ _ _ _ _ _ _ _ _ _ _ _)
      | (with_reducible exact ih5 _ _ _ _ _ _ _ _ _ _ _ _ _ _ _ _)
      | (with_reducible exact ih6 _ _ _ _ _ _ _ _ _ _ _ _ _ _ _ _ _ _ _)
      | (with_reducible exact impl_DotBytes.mono _ _ _ _ _ _ _)
      | (with_reducible exact impl_Factor.mono _ _ _ _ _ _ _)
      | (with_reducible exact impl_Requant.mono _ _ _ _ _ _)
      | (with_reducible exact LeO.refl _)
      | (with_reducible exact LeO.none _)
      | (with_reducible refine LeO.ite ?_ ?_)
      | (with_reducible refine LeO.bind ?_ (fun _ => ?_))
      | exact ih0 _ _ _ _ _ _ _ _ _ _ _ _ _ _
      | exact ih1 _ _ _ _ _ _ _ _ _ _ _ _ _ _ _
      | exact ih2 _ _ _ _ _ _ _ _ _ _ _ _ _ _ _ _ _
      | exact ih3 _ _ _ _ _ _ _ _ _ _ _ _ _ _ _ _ _ _ _ _
      | exact ih4 _ _ _ _ _ _ _ _ _ _ _ _ _ _ _ _ _
      | exact ih5 _ _ _ _ _ _ _ _ _ _ _ _ _ _ _ _
      | exact ih6 _ _ _ _ _ _ _ _ _ _ _ _ _ _ _ _ _ _ _
      | exact impl_DotBytes.mono _ _ _ _ _ _ _
      | exact impl_Factor.mono _ _ _ _ _ _ _
      | exact impl_Requant.mono _ _ _ _ _ _
      | exact LeO.none _
      | refine LeO.ite ?_ ?_
      | refine LeO.bind ?_ (fun _ => ?_)
    · intro y0 y1 y2 y3 y4 y5 y6 y7 y8 y9 y10 y11 y12 y13 y14 y15
      unfold impl_MatBytes.l3
      repeat' first
      | (with_reducible exact ih0 _ _ _ _ _ _ _ _ _ _ _ _ _ _)
      | (with_reducible exact ih1 _ _ _ _ _ _ _ _ _ _ _ _ _ _ _)
      | (with_reducible exact ih2 _ _ _ _ _ _ _ _ _ _ _ _ _ _ _ _ _)
      | (with_reducible exact ih3 _ _ _ _ _ _ _ _ _ _ _ _ _ _ _ _ _ _ _ _)
      | (with_reducible exact ih4 _ _ _ _ _ _ _ _ _ _ _ _ _ _ _ _ _)
      | (with_reducible exact ih5 _ _ _ _ _ _ _ _ _ _ _ _ _ _ _ _)
      | (with_reducible exact ih6 _ _ _ _ _ _ _ _ _ _ _ _ _ _ _ _ _ _ _)
      | (with_reducible exact impl_DotBytes.mono _ _ _ _ _ _ _)
      | (with_reducible exact impl_Factor.mono _ _ _ _ _ _ _)
      | (with_reducible exact impl_Requant.mono _ _ _ _ _ _)
      | (with_reducible exact LeO.refl _)
      | (with_reducible exact LeO.none _)
      | (with_reducible refine LeO.ite ?_ ?_)
      | (with_reducible refine LeO.bind ?_ (fun _ => ?_))
      | exact ih0 _ _ _ _ _ _ _ _ _ _ _ _ _ _
      | exact ih1 _ _ _ _ _ _ _ _ _ _ _ _ _ _ _
      | exact ih2 _ _ _ _ _ _ _ _ _ _ _ _ _ _ _ _ _
      | exact ih3 _ _ _ _ _ _ _ _ _ _ _ _ _ _ _ _ _ _ _ _
      | exact ih4 _ _ _ _ _ _ _ _ _ _ _ _ _ _ _ _ _
      | exact ih5 _ _ _ _ _ _ _ _ _ _ _ _ _ _ _ _
      | exact ih6 _ _ _ _ _ _ _ _ _ _ _ _ _ _ _ _ _ _ _
      | exact impl_DotBytes.mono _ _ _ _ _ _ _
      | exact impl_Factor.mono _ _ _ _ _ _ _
      | exact impl_Requant.mono _ _ _ _ _ _
      | exact LeO.none _
      | refine LeO.ite ?_ ?_
      | refine LeO.bind ?_ (fun _ => ?_)
    · intro y0 y1 y2 y3 y4 y5 y6 y7 y8 y9 y10 y11 y12 y13 y14 y15 y16 y17 y18
      unfold impl_MatBytes.l4
      repeat' first
      | (with_reducible exact ih0 _ _ _ _ _ _ _ _ _ _ _ _ _ _)
      | (with_reducible exact ih1 _ _ _ _ _ _ _ _ _ _ _ _ _ _ _)
      | (with_reducible exact ih2 _ _ _ _ _ _ _ _ _ _ _ _ _ _ _ _ _)
      | (with_reducible exact ih3 _ _ _ _ _ _ _ _ _ _ _ _ _ _ _ _ _ _ _ _)
      | (with_reducible exact ih4 _ _ _ _ _ _ _ _ _ _ _ _ _ _ _ _ _)
      | (with_reducible exact ih5 _ _ _ _ _ _ _ _ _ _ _ _ _ _ _ _)
      | (with_reducible exact ih6 _ _ _ _ _ _ _ _ _ _ _ _ _ _ _ _ _ _ _)
      | (with_reducible exact impl_DotBytes.mono _ _ _ _ _ _ _)
      | (with_reducible exact impl_Factor.mono _ _ _ _ _ _ _)
      | (with_reducible exact impl_Requant.mono _ _ _ _ _ _)
      | (with_reducible exact LeO.refl _)
      | (with_reducible exact LeO.none _)
      | (with_reducible refine LeO.ite ?_ ?_)
      | (with_reducible refine LeO.bind ?_ (fun _ => ?_))
      | exact ih0 _ _ _ _ _ _ _ _ _ _ _ _ _ _
      | exact ih1 _ _ _ _ _ _ _ _ _ _ _ _ _ _ _
      | exact ih2 _ _ _ _ _ _ _ _ _ _ _ _ _ _ _ _ _
      | exact ih3 _ _ _ _ _ _ _ _ _ _ _ _ _ _ _ _ _ _ _ _
      | exact ih4 _ _ _ _ _ _ _ _ _ _ _ _ _ _ _ _ _
      | exact ih5 _ _ _ _ _ _ _ _ _ _ _ _ _ _ _ _
      | exact ih6 _ _ _ _ _ _ _ _ _ _ _ _ _ _ _ _ _ _ _
      | exact impl_DotBytes.mono _ _ _ _ _ _ _
      | exact impl_Factor.mono _ _ _ _ _ _ _
      | exact impl_Requant.mono _ _ _ _ _ _
      | exact LeO.none _
      | refine LeO.ite ?_ ?_
      | refine LeO.bind ?_ (fun _ => ?_)
theorem impl_MatBytes.mono : ∀ a0 a1 a2 a3 a4 a5 a6 a7 a8 a9 a10 k, LeO (impl_MatBytes.f k a0 a1 a2 a3 a4 a5 a6 a7 a8 a9 a10) (impl_MatBytes.f (k + 1) a0 a1 a2 a3 a4 a5 a6 a7 a8 a9 a10) := by
  intro a0 a1 a2 a3 a4 a5 a6 a7 a8 a9 a10 k
  obtain ⟨ih0, ih1, ih2, ih3, ih4, ih5, ih6⟩ := impl_MatBytes.mono_l k
  unfold impl_MatBytes.f
  repeat' first
      | (with_reducible exact ih0 _ _ _ _ _ _ _ _ _ _ _ _ _ _)
      | (with_reducible exact ih1 _ _ _ _ _ _ _ _ _ _ _ _ _ _ _)
      | (with_reducible exact ih2 _ _ _ _ _ _ _ _ _ _ _ _ _ _ _ _ _)
      | (with_reducible exact ih3 _ _ _ _ _ _ _ _ _ _ _ _ _ _ _ _ _ _ _ _)
      | (with_reducible exact ih4 _ _ _ _ _ _ _ _ _ _ _ _ _ _ _ _ _)
      | (with_reducible exact ih5 _ _ _ _ _ _ _ _ _ _ _ _ _ _ _ _)
      | (with_reducible exact ih6 _ _ _ _ _ _ _ _ _ _ _ _ _ _ _ _ _ _ _)
      | (with_reducible exact impl_DotBytes.mono _ _ _ _ _ _ _)
      | (with_reducible exact impl_Factor.mono _ _ _ _ _ _ _)
      | (with_reducible exact impl_Requant.mono _ _ _ _ _ _)
      | (with_reducible exact LeO.refl _)
      | (with_reducible exact LeO.none _)
      | (with_reducible refine LeO.ite ?_ ?_)
      | (with_reducible refine LeO.bind ?_ (fun _ => ?_))
      | exact ih0 _ _ _ _ _ _ _ _ _ _ _ _ _ _
      | exact ih1 _ _ _ _ _ _ _ _ _ _ _ _ _ _ _
      | exact ih2 _ _ _ _ _ _ _ _ _ _ _ _ _ _ _ _ _
      | exact ih3 _ _ _ _ _ _ _ _ _ _ _ _ _ _ _ _ _ _ _ _
      | exact ih4 _ _ _ _ _ _ _ _ _ _ _ _ _ _ _ _ _
      | exact ih5 _ _ _ _ _ _ _ _ _ _ _ _ _ _ _ _
      | exact ih6 _ _ _ _ _ _ _ _ _ _ _ _ _ _ _ _ _ _ _
      | exact impl_DotBytes.mono _ _ _ _ _ _ _
      | exact impl_Factor.mono _ _ _ _ _ _ _
      | exact impl_Requant.mono _ _ _ _ _ _
      | exact LeO.none _
      | refine LeO.ite ?_ ?_
      | refine LeO.bind ?_ (fun _ => ?_)
def impl_MatBytes.T30 : Bool × List (List Nat × List Nat) := (true, [([], []), ([], []), ([], []), ([], []), ([], []), ([3, 4], [3, 4]), ([], []), ([6], [6]), ([], []), ([7, 8], [7, 8]), ([2, 5, 9], [2, 5, 9]), ([], []), ([], []), ([], []), ([12, 13], [12, 13]), ([], []), ([15], [15]), ([], []), ([16, 17], [16, 17]), ([11, 14, 18], [11, 14, 18]), ([0, 1, 10, 19], [0, 1, 10, 19]), ([], []), ([], []), ([21, 22], [21, 22]), ([23], [23]), ([20, 24], [20, 24]), ([25, 20, 0, 1, 2, 3, 4, 5, 6, 7, 8, 9, 10, 11, 12, 13, 14, 15, 16, 17, 18, 19, 20, 21, 22, 23, 24, 25], [25])])
def impl_MatBytes.B30 : List Nat := [0, 0, 0, 0, 0, 24, 0, 64, 0, 448, 1020, 0, 0, 0, 12288, 0, 32768, 0, 229376, 522240, 1048575, 0, 0, 6291456, 14680064, 33554431, 67108863]
theorem impl_MatBytes.tab30 : rtab .any (opsOf Try.f18 30) = impl_MatBytes.T30 := by kernel_rfl
theorem impl_MatBytes.bits30 : waitsOk impl_MatBytes.T30.2 impl_MatBytes.B30 = true := by kernel_rfl
def impl_MatBytes.T31 : Bool × List (List Nat × List Nat) := (true, [([], []), ([], []), ([1], [1]), ([], []), ([], []), ([], []), ([2, 3, 4, 5, 2], [2, 3, 4, 5]), ([6], [6]), ([0, 7, 6], [0, 7]), ([8, 8, 0, 1, 2, 3, 4, 5, 6, 7, 8], [0, 8])])
def impl_MatBytes.B31 : List Nat := [0, 0, 2, 0, 0, 0, 62, 126, 255, 511]
theorem impl_MatBytes.tab31 : rtab .any (opsOf Try.f18 31) = impl_MatBytes.T31 := by kernel_rfl
theorem impl_MatBytes.bits31 : waitsOk impl_MatBytes.T31.2 impl_MatBytes.B31 = true := by kernel_rfl
set_option maxHeartbeats 8000000 in
set_option maxRecDepth 100000 in
theorem impl_MatBytes.calls (k : Nat) (P0_ : Nat → Prop) (A0 : Option Addr) (c0 : Nat) (l0 : List Int) (a1 : Int) (a2_0 : Int) (a2_1 : Int) (P3_ : Nat → Prop) (A3 : Option Addr) (c3 : Nat) (l3 : List Int) (a4 : Int) (a5_0 : Int) (a5_1 : Int) (A6 : Option Addr) (c6 : Nat) (l6 : List Int) (a7_0 : Int) (a7_1 : Int) (r : List Int) (w : World) (hs0 : Kd.V (Kd.int .i64) 3 w w.heap.size (fun k_ => P0_ k_) (.slice A0 l0.length c0) l0) (hs3 : Kd.V (Kd.int .i64) 3 w w.heap.size (fun k_ => P3_ k_) (.slice A3 l3.length c3) l3) (hr6 : Kd.C (Kd.int .i64) w A6 l6.length l6) (hc6 : l6.length ≤ c6) (h : impl_MatBytes.f k l0 a1 a2_0 a2_1 l3 a4 a5_0 a5_1 l6 a7_0 a7_1 = some r) :
    Calls Try.prog 18 #[.slice A0 l0.length c0, .int .i64 a1, .agg #[.int .i64 a2_0, .int .i64 a2_1], .slice A3 l3.length c3, .int .i64 a4, .agg #[.int .i64 a5_0, .int .i64 a5_1], .slice A6 l6.length c6, .agg #[.int .i64 a7_0, .int .i64 a7_1]] w fun e w' => ∃ v0_ : Value, e = .returned (v0_) ∧ Kd.R (Kd.int .i64) 3 w' w.heap.size (fun k_ => (w.heap.size ≤ k_)) v0_ r ∧ Below w.heap.size w w' := by
  have hu45 := Try.underlying45
  have HO0 := zK (show Kd.V (Kd.int .i64) 3 w w.heap.size (fun k_ => ((P0_ k_ ∨ P3_ k_) ∨ w.heap.size ≤ k_)) (.slice A0 l0.length c0) l0 from Kd.V_mono hs0 (fun k_ hk => .inl (.inl hk)))
  have HO3 := zK (show Kd.V (Kd.int .i64) 3 w w.heap.size (fun k_ => ((P0_ k_ ∨ P3_ k_) ∨ w.heap.size ≤ k_)) (.slice A3 l3.length c3) l3 from Kd.V_mono hs3 (fun k_ hk => .inl (.inr hk)))
  have HR6 := zK hr6
  have HC6 := zK hc6
  clear hr6 hc6
  have HB := zK (Below.refl w.heap.size w)
  have H : ((impl_Factor.f k a2_0 a2_1 a5_0 a5_1 a7_0 a7_1).bind fun bt168 => (if bt168.2.2 = true then ((impl_within.f a1 1 4096).bind fun t171 => (if t171 = true then ((impl_within.f a4 1 4096).bind fun t172 => (if t172 = true then (if a1 = 0 then (none) else (if ((l0.length : Int) % a1) = 0 then (if (l3.length : Int) = (wrap64 (a4 * a1)) then (impl_MatBytes.j0 k l0 a1 l3 a4 l6 bt168.1 bt168.2.1 ((l6.length : Int) != a4) a2_0 a2_1 a5_0 a5_1 a7_0 a7_1) else (impl_MatBytes.j0 k l0 a1 l3 a4 l6 bt168.1 bt168.2.1 true a2_0 a2_1 a5_0 a5_1 a7_0 a7_1)) else (impl_MatBytes.j0 k l0 a1 l3 a4 l6 bt168.1 bt168.2.1 true a2_0 a2_1 a5_0 a5_1 a7_0 a7_1))) else (impl_MatBytes.j0 k l0 a1 l3 a4 l6 bt168.1 bt168.2.1 true a2_0 a2_1 a5_0 a5_1 a7_0 a7_1))) else (impl_MatBytes.j0 k l0 a1 l3 a4 l6 bt168.1 bt168.2.1 true a2_0 a2_1 a5_0 a5_1 a7_0 a7_1))) else (impl_MatBytes.j0 k l0 a1 l3 a4 l6 bt168.1 bt168.2.1 true a2_0 a2_1 a5_0 a5_1 a7_0 a7_1))) = some r := h
  clear h
  replace H := Option.bind_eq_some_iff.mp H
  obtain ⟨⟨t168, t169, t170⟩, A90, H⟩ := H
  replace H : (if t170 = true then ((impl_within.f a1 1 4096).bind fun t171 => (if t171 = true then ((impl_within.f a4 1 4096).bind fun t172 => (if t172 = true then (if a1 = 0 then (none) else (if ((l0.length : Int) % a1) = 0 then (if (l3.length : Int) = (wrap64 (a4 * a1)) then (impl_MatBytes.j0 k l0 a1 l3 a4 l6 t168 t169 ((l6.length : Int) != a4) a2_0 a2_1 a5_0 a5_1 a7_0 a7_1) else (impl_MatBytes.j0 k l0 a1 l3 a4 l6 t168 t169 true a2_0 a2_1 a5_0 a5_1 a7_0 a7_1)) else (impl_MatBytes.j0 k l0 a1 l3 a4 l6 t168 t169 true a2_0 a2_1 a5_0 a5_1 a7_0 a7_1))) else (impl_MatBytes.j0 k l0 a1 l3 a4 l6 t168 t169 true a2_0 a2_1 a5_0 a5_1 a7_0 a7_1))) else (impl_MatBytes.j0 k l0 a1 l3 a4 l6 t168 t169 true a2_0 a2_1 a5_0 a5_1 a7_0 a7_1))) else (impl_MatBytes.j0 k l0 a1 l3 a4 l6 t168 t169 true a2_0 a2_1 a5_0 a5_1 a7_0 a7_1)) = some r := H
  have A9 := zK A90
  clear A90
  have HC10 := zK H
  clear H
  go_enter Try.func18, Try.ntmps18
  go_upto_region 2 with (first | ((with_reducible refine gate_dst (N := 10) rfl ?_); (try (refine gate_guard (by rfl) ?_; dsimp only)); refine box_event ?hg (N := 10) ?hd (cs := #[.int .i64 a2_0, .int .i64 a2_1]) (t := 45) ?hr ?_; (case hd => rfl); (case hg => rfl); (case hr => first | (go_simp; done) | (go_simp; rfl)); intro gb165 hg w11 hbox hb; have n0_ := zK (Kd.V_below (Kd.V_elderB (by (with_reducible repeat (first | apply Kd.V_alloc | apply Kd.V_drewN | apply Kd.V_drew)); exact HO0.out) gb165 (Nat.le_of_eq hg.symm)) hb); have n1_ := zK (Kd.V_below (Kd.V_elderB (by (with_reducible repeat (first | apply Kd.V_alloc | apply Kd.V_drewN | apply Kd.V_drew)); exact HO3.out) gb165 (Nat.le_of_eq hg.symm)) hb); have n2_ := zK (zp zB hb); have n3_ := zK (hbox); have n4_ := zK ((by rw [hg]; exact (zz zB) : w.heap.size ≤ gb165)); have n5_ := zK ((by rw [hg]; exact (zz zB) : w.heap.size ≤ gb165)); clear HO0; clear HO3; clear HB; have HO0 := n0_; have HO3 := n1_; have HB := n2_; have BK165 := n3_; have GW165 := n4_; have GE165 := n5_; clear n0_ n1_ n2_ n3_ n4_ n5_; clear hb hbox hg) | ((with_reducible refine gate_dst (N := 13) rfl ?_); (try (refine gate_guard (by rfl) ?_; dsimp only)); refine box_event ?hg (N := 13) ?hd (cs := #[.int .i64 a5_0, .int .i64 a5_1]) (t := 45) ?hr ?_; (case hd => rfl); (case hg => rfl); (case hr => first | (go_simp; done) | (go_simp; rfl)); intro gb166 hg w12 hbox hb; have n0_ := zK (Kd.V_below (Kd.V_elderB (by (with_reducible repeat (first | apply Kd.V_alloc | apply Kd.V_drewN | apply Kd.V_drew)); exact HO0.out) gb166 (Nat.le_of_eq hg.symm)) hb); have n1_ := zK (Kd.V_below (Kd.V_elderB (by (with_reducible repeat (first | apply Kd.V_alloc | apply Kd.V_drewN | apply Kd.V_drew)); exact HO3.out) gb166 (Nat.le_of_eq hg.symm)) hb); have n2_ := zK (zg (g := gb165) (o := .cells #[.int .i64 a2_0, .int .i64 a2_1] 45 (0, 0)) (by (with_reducible repeat (first | refine zn ?_ _ | refine zd ?_ | refine za ?_ _)); exact BK165.out) hb); have n3_ := zK (zp zB hb); have n4_ := zK (hbox); have n5_ := zK ((by rw [hg]; exact (zz zB) : w.heap.size ≤ gb166)); have n6_ := zK ((by rw [hg]; exact (zz zB) : w.heap.size ≤ gb166)); have n7_ := zK ((by rw [hg]; exact Nat.ne_of_lt (blk_lt (g := gb165) (o := .cells #[.int .i64 a2_0, .int .i64 a2_1] 45 (0, 0)) (by (with_reducible repeat (first | refine zn ?_ _ | refine zd ?_ | refine za ?_ _)); exact BK165.out)) : gb165 ≠ gb166)); have n8_ := zK ((by rw [hg]; exact Nat.ne_of_gt (blk_lt (g := gb165) (o := .cells #[.int .i64 a2_0, .int .i64 a2_1] 45 (0, 0)) (by (with_reducible repeat (first | refine zn ?_ _ | refine zd ?_ | refine za ?_ _)); exact BK165.out)) : gb166 ≠ gb165)); clear HO0; clear HO3; clear BK165; clear HB; have HO0 := n0_; have HO3 := n1_; have BK165 := n2_; have HB := n3_; have BK166 := n4_; have GW166 := n5_; have GE166 := n6_; have NB165_166 := n7_; have NB166_165 := n8_; clear n0_ n1_ n2_ n3_ n4_ n5_ n6_ n7_ n8_; clear hb hbox hg) | ((with_reducible refine gate_dst (N := 15) rfl ?_); (try (refine gate_guard (by rfl) ?_; dsimp only)); refine box_event ?hg (N := 15) ?hd (cs := #[.int .i64 a7_0, .int .i64 a7_1]) (t := 45) ?hr ?_; (case hd => rfl); (case hg => rfl); (case hr => first | (go_simp; done) | (go_simp; rfl)); intro gb167 hg w13 hbox hb; have n0_ := zK (Kd.V_below (Kd.V_elderB (by (with_reducible repeat (first | apply Kd.V_alloc | apply Kd.V_drewN | apply Kd.V_drew)); exact HO0.out) gb167 (Nat.le_of_eq hg.symm)) hb); have n1_ := zK (Kd.V_below (Kd.V_elderB (by (with_reducible repeat (first | apply Kd.V_alloc | apply Kd.V_drewN | apply Kd.V_drew)); exact HO3.out) gb167 (Nat.le_of_eq hg.symm)) hb); have n2_ := zK (zg (g := gb165) (o := .cells #[.int .i64 a2_0, .int .i64 a2_1] 45 (0, 0)) (by (with_reducible repeat (first | refine zn ?_ _ | refine zd ?_ | refine za ?_ _)); exact BK165.out) hb); have n3_ := zK (zg (g := gb166) (o := .cells #[.int .i64 a5_0, .int .i64 a5_1] 45 (0, 0)) (by (with_reducible repeat (first | refine zn ?_ _ | refine zd ?_ | refine za ?_ _)); exact BK166.out) hb); have n4_ := zK (zp zB hb); have n5_ := zK (hbox); have n6_ := zK ((by rw [hg]; exact (zz zB) : w.heap.size ≤ gb167)); have n7_ := zK ((by rw [hg]; exact (zz zB) : w.heap.size ≤ gb167)); have n8_ := zK ((by rw [hg]; exact Nat.ne_of_lt (blk_lt (g := gb165) (o := .cells #[.int .i64 a2_0, .int .i64 a2_1] 45 (0, 0)) (by (with_reducible repeat (first | refine zn ?_ _ | refine zd ?_ | refine za ?_ _)); exact BK165.out)) : gb165 ≠ gb167)); have n9_ := zK ((by rw [hg]; exact Nat.ne_of_gt (blk_lt (g := gb165) (o := .cells #[.int .i64 a2_0, .int .i64 a2_1] 45 (0, 0)) (by (with_reducible repeat (first | refine zn ?_ _ | refine zd ?_ | refine za ?_ _)); exact BK165.out)) : gb167 ≠ gb165)); have n10_ := zK ((by rw [hg]; exact Nat.ne_of_lt (blk_lt (g := gb166) (o := .cells #[.int .i64 a5_0, .int .i64 a5_1] 45 (0, 0)) (by (with_reducible repeat (first | refine zn ?_ _ | refine zd ?_ | refine za ?_ _)); exact BK166.out)) : gb166 ≠ gb167)); have n11_ := zK ((by rw [hg]; exact Nat.ne_of_gt (blk_lt (g := gb166) (o := .cells #[.int .i64 a5_0, .int .i64 a5_1] 45 (0, 0)) (by (with_reducible repeat (first | refine zn ?_ _ | refine zd ?_ | refine za ?_ _)); exact BK166.out)) : gb167 ≠ gb166)); clear HO0; clear HO3; clear BK165; clear BK166; clear HB; have HO0 := n0_; have HO3 := n1_; have BK165 := n2_; have BK166 := n3_; have HB := n4_; have BK167 := n5_; have GW167 := n6_; have GE167 := n7_; have NB165_167 := n8_; have NB167_165 := n9_; have NB166_167 := n10_; have NB167_166 := n11_; clear n0_ n1_ n2_ n3_ n4_ n5_ n6_ n7_ n8_ n9_ n10_ n11_; clear hb hbox hg; have hnb14 := NB165_166.out; have hnc14 := NB166_165.out; have hnb15 := NB165_167.out; have hnc15 := NB167_165.out; have hcz16_0 : w13.cell? ⟨gb165, 0, none⟩ = some (.int .i64 a2_0) := (zc BK165.out 0).trans rfl; have hcz16_1 : w13.cell? ⟨gb165, 1, none⟩ = some (.int .i64 a2_1) := (zc BK165.out 1).trans rfl; have hfz16_0 := zf BK165.out 0; have hfz16_1 := zf BK165.out 1; have hnb17 := NB166_167.out; have hnc17 := NB167_166.out; have hcz18_0 : w13.cell? ⟨gb166, 0, none⟩ = some (.int .i64 a5_0) := (zc BK166.out 0).trans rfl; have hcz18_1 : w13.cell? ⟨gb166, 1, none⟩ = some (.int .i64 a5_1) := (zc BK166.out 1).trans rfl; have hfz18_0 := zf BK166.out 0; have hfz18_1 := zf BK166.out 1; have hcz19_0 : w13.cell? ⟨gb167, 0, none⟩ = some (.int .i64 a7_0) := (zc BK167.out 0).trans rfl; have hcz19_1 : w13.cell? ⟨gb167, 1, none⟩ = some (.int .i64 a7_1) := (zc BK167.out 1).trans rfl; have hfz19_0 := zf BK167.out 0; have hfz19_1 := zf BK167.out 1) | ((with_reducible refine gate_callee (f := 64) rfl ?_); refine goesL_ (some 35) rfl rfl Try.func64 (by kernel_rfl) rfl #[.agg #[.int .i64 a2_0, .int .i64 a2_1], .agg #[.int .i64 a5_0, .int .i64 a5_1], .agg #[.int .i64 a7_0, .int .i64 a7_1]] rfl zL ?_; (with_reducible refine (impl_Factor.calls k a2_0 a2_1 a5_0 a5_1 a7_0 a7_1 t168 t169 t170 _ A9.out).mono ?_); rintro e w20 ⟨rfl, hb⟩; refine ⟨_, rfl, ?_⟩; have n0_ := zK (Kd.V_below (by (with_reducible repeat (first | apply Kd.V_alloc | apply Kd.V_drewN | apply Kd.V_drew)); exact HO0.out) hb); have n1_ := zK (Kd.V_below (by (with_reducible repeat (first | apply Kd.V_alloc | apply Kd.V_drewN | apply Kd.V_drew)); exact HO3.out) hb); have n2_ := zK (zg (g := gb165) (o := .cells #[.int .i64 a2_0, .int .i64 a2_1] 45 (0, 0)) (by (with_reducible repeat (first | refine zn ?_ _ | refine zd ?_ | refine za ?_ _)); exact BK165.out) hb); have n3_ := zK (zg (g := gb166) (o := .cells #[.int .i64 a5_0, .int .i64 a5_1] 45 (0, 0)) (by (with_reducible repeat (first | refine zn ?_ _ | refine zd ?_ | refine za ?_ _)); exact BK166.out) hb); have n4_ := zK (zg (g := gb167) (o := .cells #[.int .i64 a7_0, .int .i64 a7_1] 45 (0, 0)) (by (with_reducible repeat (first | refine zn ?_ _ | refine zd ?_ | refine za ?_ _)); exact BK167.out) hb); have n5_ := zK (zp zB hb); clear HO0; clear HO3; clear BK165; clear BK166; clear BK167; clear HB; have HO0 := n0_; have HO3 := n1_; have BK165 := n2_; have BK166 := n3_; have BK167 := n4_; have HB := n5_; clear n0_ n1_ n2_ n3_ n4_ n5_; (try clear hb); (try clear hb2); (try clear hk); (try clear hi)))
  (try simp only [Act.put, List.setIfInBounds_toArray, List.set_cons_zero, List.set_cons_succ])
  go_cut [71] (fun v71 wc => ∃ (kq : Nat) (x71_9 : Bool), v71 = .bool x71_9 ∧ Aside0 (impl_MatBytes.j0 kq l0 a1 l3 a4 l6 t168 t169 x71_9 a2_0 a2_1 a5_0 a5_1 a7_0 a7_1 = some r) ∧ Aside0 (kq ≤ k) ∧ Aside0 (Kd.V (Kd.int .i64) 3 wc w.heap.size (fun k_ => ((P0_ k_ ∨ P3_ k_) ∨ w.heap.size ≤ k_) ∧ k_ ≠ gb165 ∧ k_ ≠ gb166 ∧ k_ ≠ gb167) (.slice A0 l0.length c0) l0) ∧ Aside0 (Kd.V (Kd.int .i64) 3 wc w.heap.size (fun k_ => ((P0_ k_ ∨ P3_ k_) ∨ w.heap.size ≤ k_) ∧ k_ ≠ gb165 ∧ k_ ≠ gb166 ∧ k_ ≠ gb167) (.slice A3 l3.length c3) l3) ∧ Aside0 (wc.heap[gb165]? = some (.cells #[.int .i64 a2_0, .int .i64 a2_1] 45 (0, 0))) ∧ Aside0 (wc.heap[gb166]? = some (.cells #[.int .i64 a5_0, .int .i64 a5_1] 45 (0, 0))) ∧ Aside0 (wc.heap[gb167]? = some (.cells #[.int .i64 a7_0, .int .i64 a7_1] 45 (0, 0))) ∧ Aside0 (Below w.heap.size w wc))
  case first =>
   have H := HC10.out
   clear HC10
   by_cases c21 : t170 = true
   rotate_left
   · replace c21 := Bool.eq_false_iff.mpr c21
     subst c21
     have H1 : (impl_MatBytes.j0 k l0 a1 l3 a4 l6 t168 t169 true a2_0 a2_1 a5_0 a5_1 a7_0 a7_1) = some r := by rw [if_neg (show ¬ (false = true) by decide)] at H; exact H
     clear H
     have H := H1
     clear H1
     have H' := zK H
     clear H
     go_wp2
     go_meet
     case rel => exact ⟨_, (true), zR, H', ⟨by first | omega | exact Nat.le_refl _⟩, ⟨by (with_reducible repeat (first | apply Kd.V_alloc | apply Kd.V_drewN | apply Kd.V_drew)); exact Kd.V_mono HO0.out (fun _ hk => ⟨hk.1.1.1, ⟨hk.1.1.2, ⟨hk.1.2, hk.2⟩⟩⟩)⟩, ⟨by (with_reducible repeat (first | apply Kd.V_alloc | apply Kd.V_drewN | apply Kd.V_drew)); exact Kd.V_mono HO3.out (fun _ hk => ⟨hk.1.1.1, ⟨hk.1.1.2, ⟨hk.1.2, hk.2⟩⟩⟩)⟩, ⟨by (with_reducible repeat (first | refine zn ?_ _ | refine zd ?_ | refine za ?_ _)); exact BK165.out⟩, ⟨by (with_reducible repeat (first | refine zn ?_ _ | refine zd ?_ | refine za ?_ _)); exact BK166.out⟩, ⟨by (with_reducible repeat (first | refine zn ?_ _ | refine zd ?_ | refine za ?_ _)); exact BK167.out⟩, ⟨zB⟩⟩
   subst c21
   have H1 : ((impl_within.f a1 1 4096).bind fun t171 => (if t171 = true then ((impl_within.f a4 1 4096).bind fun t172 => (if t172 = true then (if a1 = 0 then (none) else (if ((l0.length : Int) % a1) = 0 then (if (l3.length : Int) = (wrap64 (a4 * a1)) then (impl_MatBytes.j0 k l0 a1 l3 a4 l6 t168 t169 ((l6.length : Int) != a4) a2_0 a2_1 a5_0 a5_1 a7_0 a7_1) else (impl_MatBytes.j0 k l0 a1 l3 a4 l6 t168 t169 true a2_0 a2_1 a5_0 a5_1 a7_0 a7_1)) else (impl_MatBytes.j0 k l0 a1 l3 a4 l6 t168 t169 true a2_0 a2_1 a5_0 a5_1 a7_0 a7_1))) else (impl_MatBytes.j0 k l0 a1 l3 a4 l6 t168 t169 true a2_0 a2_1 a5_0 a5_1 a7_0 a7_1))) else (impl_MatBytes.j0 k l0 a1 l3 a4 l6 t168 t169 true a2_0 a2_1 a5_0 a5_1 a7_0 a7_1))) = some r := by rw [if_pos rfl] at H; exact H
   clear H
   have H := H1
   clear H1
   replace H := Option.bind_eq_some_iff.mp H
   obtain ⟨t171, A220, H⟩ := H
   replace H : (if t171 = true then ((impl_within.f a4 1 4096).bind fun t172 => (if t172 = true then (if a1 = 0 then (none) else (if ((l0.length : Int) % a1) = 0 then (if (l3.length : Int) = (wrap64 (a4 * a1)) then (impl_MatBytes.j0 k l0 a1 l3 a4 l6 t168 t169 ((l6.length : Int) != a4) a2_0 a2_1 a5_0 a5_1 a7_0 a7_1) else (impl_MatBytes.j0 k l0 a1 l3 a4 l6 t168 t169 true a2_0 a2_1 a5_0 a5_1 a7_0 a7_1)) else (impl_MatBytes.j0 k l0 a1 l3 a4 l6 t168 t169 true a2_0 a2_1 a5_0 a5_1 a7_0 a7_1))) else (impl_MatBytes.j0 k l0 a1 l3 a4 l6 t168 t169 true a2_0 a2_1 a5_0 a5_1 a7_0 a7_1))) else (impl_MatBytes.j0 k l0 a1 l3 a4 l6 t168 t169 true a2_0 a2_1 a5_0 a5_1 a7_0 a7_1)) = some r := H
   have A22 := zK A220
   clear A220
   by_cases c23 : t171 = true
   rotate_left
   · replace c23 := Bool.eq_false_iff.mpr c23
     subst c23
     have H1 : (impl_MatBytes.j0 k l0 a1 l3 a4 l6 t168 t169 true a2_0 a2_1 a5_0 a5_1 a7_0 a7_1) = some r := by rw [if_neg (show ¬ (false = true) by decide)] at H; exact H
     clear H
     have H := H1
     clear H1
     have H' := zK H
     clear H
     go_wp2_with (first | (go_at_call 65; (with_reducible refine (impl_within.calls a1 1 4096 false _ A22.out).mono ?_); rintro e w' ⟨rfl, ⟨nd, rfl⟩⟩))
     go_meet
     case rel => exact ⟨_, (true), zR, H', ⟨by first | omega | exact Nat.le_refl _⟩, ⟨by (with_reducible repeat (first | apply Kd.V_alloc | apply Kd.V_drewN | apply Kd.V_drew)); exact Kd.V_mono HO0.out (fun _ hk => ⟨hk.1.1.1, ⟨hk.1.1.2, ⟨hk.1.2, hk.2⟩⟩⟩)⟩, ⟨by (with_reducible repeat (first | apply Kd.V_alloc | apply Kd.V_drewN | apply Kd.V_drew)); exact Kd.V_mono HO3.out (fun _ hk => ⟨hk.1.1.1, ⟨hk.1.1.2, ⟨hk.1.2, hk.2⟩⟩⟩)⟩, ⟨by (with_reducible repeat (first | refine zn ?_ _ | refine zd ?_ | refine za ?_ _)); exact BK165.out⟩, ⟨by (with_reducible repeat (first | refine zn ?_ _ | refine zd ?_ | refine za ?_ _)); exact BK166.out⟩, ⟨by (with_reducible repeat (first | refine zn ?_ _ | refine zd ?_ | refine za ?_ _)); exact BK167.out⟩, ⟨zB⟩⟩
   subst c23
   have H1 : ((impl_within.f a4 1 4096).bind fun t172 => (if t172 = true then (if a1 = 0 then (none) else (if ((l0.length : Int) % a1) = 0 then (if (l3.length : Int) = (wrap64 (a4 * a1)) then (impl_MatBytes.j0 k l0 a1 l3 a4 l6 t168 t169 ((l6.length : Int) != a4) a2_0 a2_1 a5_0 a5_1 a7_0 a7_1) else (impl_MatBytes.j0 k l0 a1 l3 a4 l6 t168 t169 true a2_0 a2_1 a5_0 a5_1 a7_0 a7_1)) else (impl_MatBytes.j0 k l0 a1 l3 a4 l6 t168 t169 true a2_0 a2_1 a5_0 a5_1 a7_0 a7_1))) else (impl_MatBytes.j0 k l0 a1 l3 a4 l6 t168 t169 true a2_0 a2_1 a5_0 a5_1 a7_0 a7_1))) = some r := by rw [if_pos rfl] at H; exact H
   clear H
   have H := H1
   clear H1
   replace H := Option.bind_eq_some_iff.mp H
   obtain ⟨t172, A240, H⟩ := H
   replace H : (if t172 = true then (if a1 = 0 then (none) else (if ((l0.length : Int) % a1) = 0 then (if (l3.length : Int) = (wrap64 (a4 * a1)) then (impl_MatBytes.j0 k l0 a1 l3 a4 l6 t168 t169 ((l6.length : Int) != a4) a2_0 a2_1 a5_0 a5_1 a7_0 a7_1) else (impl_MatBytes.j0 k l0 a1 l3 a4 l6 t168 t169 true a2_0 a2_1 a5_0 a5_1 a7_0 a7_1)) else (impl_MatBytes.j0 k l0 a1 l3 a4 l6 t168 t169 true a2_0 a2_1 a5_0 a5_1 a7_0 a7_1))) else (impl_MatBytes.j0 k l0 a1 l3 a4 l6 t168 t169 true a2_0 a2_1 a5_0 a5_1 a7_0 a7_1)) = some r := H
   have A24 := zK A240
   clear A240
   by_cases c25 : t172 = true
   rotate_left
   · replace c25 := Bool.eq_false_iff.mpr c25
     subst c25
     have H1 : (impl_MatBytes.j0 k l0 a1 l3 a4 l6 t168 t169 true a2_0 a2_1 a5_0 a5_1 a7_0 a7_1) = some r := by rw [if_neg (show ¬ (false = true) by decide)] at H; exact H
     clear H
     have H := H1
     clear H1
     have H' := zK H
     clear H
     go_wp2_with (first | (go_at_call 65; (with_reducible refine (impl_within.calls a1 1 4096 true _ A22.out).mono ?_); rintro e w' ⟨rfl, ⟨nd, rfl⟩⟩) | (go_at_call 65; (with_reducible refine (impl_within.calls a4 1 4096 false _ A24.out).mono ?_); rintro e w' ⟨rfl, ⟨nd, rfl⟩⟩))
     go_meet
     case rel => exact ⟨_, (true), zR, H', ⟨by first | omega | exact Nat.le_refl _⟩, ⟨by (with_reducible repeat (first | apply Kd.V_alloc | apply Kd.V_drewN | apply Kd.V_drew)); exact Kd.V_mono HO0.out (fun _ hk => ⟨hk.1.1.1, ⟨hk.1.1.2, ⟨hk.1.2, hk.2⟩⟩⟩)⟩, ⟨by (with_reducible repeat (first | apply Kd.V_alloc | apply Kd.V_drewN | apply Kd.V_drew)); exact Kd.V_mono HO3.out (fun _ hk => ⟨hk.1.1.1, ⟨hk.1.1.2, ⟨hk.1.2, hk.2⟩⟩⟩)⟩, ⟨by (with_reducible repeat (first | refine zn ?_ _ | refine zd ?_ | refine za ?_ _)); exact BK165.out⟩, ⟨by (with_reducible repeat (first | refine zn ?_ _ | refine zd ?_ | refine za ?_ _)); exact BK166.out⟩, ⟨by (with_reducible repeat (first | refine zn ?_ _ | refine zd ?_ | refine za ?_ _)); exact BK167.out⟩, ⟨zB⟩⟩
   subst c25
   have H1 : (if a1 = 0 then (none) else (if ((l0.length : Int) % a1) = 0 then (if (l3.length : Int) = (wrap64 (a4 * a1)) then (impl_MatBytes.j0 k l0 a1 l3 a4 l6 t168 t169 ((l6.length : Int) != a4) a2_0 a2_1 a5_0 a5_1 a7_0 a7_1) else (impl_MatBytes.j0 k l0 a1 l3 a4 l6 t168 t169 true a2_0 a2_1 a5_0 a5_1 a7_0 a7_1)) else (impl_MatBytes.j0 k l0 a1 l3 a4 l6 t168 t169 true a2_0 a2_1 a5_0 a5_1 a7_0 a7_1))) = some r := by rw [if_pos rfl] at H; exact H
   clear H
   have H := H1
   clear H1
   by_cases c26 : a1 = 0
   · rw [if_pos c26] at H
     exact absurd H (by simp)
   rw [if_neg c26] at H
   have c26b0 : (a1 == 0) = false := beq_eq_false_iff_ne.mpr c26
   have c26b1 : (a1 != 0) = true := bne_iff_ne.mpr c26
   (first | rw [c26b0] | (simp only [i64_w, i32_w]; rw [c26b0]) | skip)
   by_cases c27 : ((l0.length : Int) % a1) = 0
   rotate_left
   · rw [if_neg c27] at H
     have c27b0 : (((l0.length : Int) % a1) == 0) = false := beq_eq_false_iff_ne.mpr c27
     have c27b1 : (((l0.length : Int) % a1) != 0) = true := bne_iff_ne.mpr c27
     have H' := zK H
     clear H
     go_wp2_with (first | (go_at_call 65; (with_reducible refine (impl_within.calls a1 1 4096 true _ A22.out).mono ?_); rintro e w' ⟨rfl, ⟨nd, rfl⟩⟩) | (go_at_call 65; (with_reducible refine (impl_within.calls a4 1 4096 true _ A24.out).mono ?_); rintro e w' ⟨rfl, ⟨nd, rfl⟩⟩))
     go_meet
     case rel => exact ⟨_, (true), zR, H', ⟨by first | omega | exact Nat.le_refl _⟩, ⟨by (with_reducible repeat (first | apply Kd.V_alloc | apply Kd.V_drewN | apply Kd.V_drew)); exact Kd.V_mono HO0.out (fun _ hk => ⟨hk.1.1.1, ⟨hk.1.1.2, ⟨hk.1.2, hk.2⟩⟩⟩)⟩, ⟨by (with_reducible repeat (first | apply Kd.V_alloc | apply Kd.V_drewN | apply Kd.V_drew)); exact Kd.V_mono HO3.out (fun _ hk => ⟨hk.1.1.1, ⟨hk.1.1.2, ⟨hk.1.2, hk.2⟩⟩⟩)⟩, ⟨by (with_reducible repeat (first | refine zn ?_ _ | refine zd ?_ | refine za ?_ _)); exact BK165.out⟩, ⟨by (with_reducible repeat (first | refine zn ?_ _ | refine zd ?_ | refine za ?_ _)); exact BK166.out⟩, ⟨by (with_reducible repeat (first | refine zn ?_ _ | refine zd ?_ | refine za ?_ _)); exact BK167.out⟩, ⟨zB⟩⟩
   rw [if_pos c27] at H
   have c27b0 : (((l0.length : Int) % a1) == 0) = true := beq_iff_eq.mpr c27
   have c27b1 : (((l0.length : Int) % a1) != 0) = false := bne_eq_false_iff_eq.mpr c27
   clear c27
   by_cases c28 : (l3.length : Int) = (wrap64 (a4 * a1))
   rotate_left
   · rw [if_neg c28] at H
     have c28b0 : ((l3.length : Int) == (wrap64 (a4 * a1))) = false := beq_eq_false_iff_ne.mpr c28
     have c28b1 : ((l3.length : Int) != (wrap64 (a4 * a1))) = true := bne_iff_ne.mpr c28
     have H' := zK H
     clear H
     go_wp2_with (first | (go_at_call 65; (with_reducible refine (impl_within.calls a1 1 4096 true _ A22.out).mono ?_); rintro e w' ⟨rfl, ⟨nd, rfl⟩⟩) | (go_at_call 65; (with_reducible refine (impl_within.calls a4 1 4096 true _ A24.out).mono ?_); rintro e w' ⟨rfl, ⟨nd, rfl⟩⟩))
     go_meet
     case rel => exact ⟨_, (true), zR, H', ⟨by first | omega | exact Nat.le_refl _⟩, ⟨by (with_reducible repeat (first | apply Kd.V_alloc | apply Kd.V_drewN | apply Kd.V_drew)); exact Kd.V_mono HO0.out (fun _ hk => ⟨hk.1.1.1, ⟨hk.1.1.2, ⟨hk.1.2, hk.2⟩⟩⟩)⟩, ⟨by (with_reducible repeat (first | apply Kd.V_alloc | apply Kd.V_drewN | apply Kd.V_drew)); exact Kd.V_mono HO3.out (fun _ hk => ⟨hk.1.1.1, ⟨hk.1.1.2, ⟨hk.1.2, hk.2⟩⟩⟩)⟩, ⟨by (with_reducible repeat (first | refine zn ?_ _ | refine zd ?_ | refine za ?_ _)); exact BK165.out⟩, ⟨by (with_reducible repeat (first | refine zn ?_ _ | refine zd ?_ | refine za ?_ _)); exact BK166.out⟩, ⟨by (with_reducible repeat (first | refine zn ?_ _ | refine zd ?_ | refine za ?_ _)); exact BK167.out⟩, ⟨zB⟩⟩
   rw [if_pos c28] at H
   have c28b0 : ((l3.length : Int) == (wrap64 (a4 * a1))) = true := beq_iff_eq.mpr c28
   have c28b1 : ((l3.length : Int) != (wrap64 (a4 * a1))) = false := bne_eq_false_iff_eq.mpr c28
   clear c28
   have H' := zK H
   clear H
   go_wp2_with (first | (go_at_call 65; (with_reducible refine (impl_within.calls a1 1 4096 true _ A22.out).mono ?_); rintro e w' ⟨rfl, ⟨nd, rfl⟩⟩) | (go_at_call 65; (with_reducible refine (impl_within.calls a4 1 4096 true _ A24.out).mono ?_); rintro e w' ⟨rfl, ⟨nd, rfl⟩⟩))
   go_meet
   case rel => exact ⟨_, (((l6.length : Int) != a4)), zR, H', ⟨by first | omega | exact Nat.le_refl _⟩, ⟨by (with_reducible repeat (first | apply Kd.V_alloc | apply Kd.V_drewN | apply Kd.V_drew)); exact Kd.V_mono HO0.out (fun _ hk => ⟨hk.1.1.1, ⟨hk.1.1.2, ⟨hk.1.2, hk.2⟩⟩⟩)⟩, ⟨by (with_reducible repeat (first | apply Kd.V_alloc | apply Kd.V_drewN | apply Kd.V_drew)); exact Kd.V_mono HO3.out (fun _ hk => ⟨hk.1.1.1, ⟨hk.1.1.2, ⟨hk.1.2, hk.2⟩⟩⟩)⟩, ⟨by (with_reducible repeat (first | refine zn ?_ _ | refine zd ?_ | refine za ?_ _)); exact BK165.out⟩, ⟨by (with_reducible repeat (first | refine zn ?_ _ | refine zd ?_ | refine za ?_ _)); exact BK166.out⟩, ⟨by (with_reducible repeat (first | refine zn ?_ _ | refine zd ?_ | refine za ?_ _)); exact BK167.out⟩, ⟨zB⟩⟩
  case rest =>
   clear HC10
   try clear c1
   try clear c2
   try clear p2
   try clear c3
   try clear c6
   try clear p6
   try clear c14
   try clear c15
   try clear c17
   try clear c18
   try clear c21
   try clear c23
   try clear c25
   try clear c26
   try clear c26b0
   try clear c26b1
   try clear c27
   try clear c27b0
   try clear c27b1
   try clear c28
   try clear c28b0
   try clear c28b1
   try clear hcz16_0
   try clear hcz16_1
   try clear hcz18_0
   try clear hcz18_1
   try clear hcz19_0
   try clear hcz19_1
   try clear hfz16_0
   try clear hfz16_1
   try clear hfz18_0
   try clear hfz18_1
   try clear hfz19_0
   try clear hfz19_1
   obtain ⟨kq, x71_9, rfl, HA, HJ9, HO_0, HO_3, BK165, BK166, BK167, HB⟩ := hcut
   cases kq with
   | zero => exact absurd HA.out (by simp [impl_MatBytes.j0])
   | succ kj9 =>
    have H := HA.out
    clear HA
    simp only [impl_MatBytes.j0] at H
    by_cases c29 : x71_9 = true
    · subst c29
      have H1 : (some ([] : List Int)) = some r := by rw [if_pos rfl] at H; exact H
      clear H
      have H := H1
      clear H1
      obtain rfl := Option.some.inj H
      go_wp2
      go_ret
      exact ⟨_, by first | rfl | (simp [errW_none, errW_some] <;> rfl) | (simp [*, errW_none, errW_some] <;> rfl), by first | exact Kd.R_nil _ _ _ _ _ | exact Kd.N_nil _ _ _ _ _ | exact Kd.V_nil _ _ _ _ _ | exact Kd.Q_nil _ _ _ _ _ | exact Kd.S_nil _ _ _ _ _, zB⟩
    replace c29 := Bool.eq_false_iff.mpr c29
    subst c29
    have H1 : (if a1 = 0 then (none) else (if (wrap64 ((l0.length : Int) / a1)) > 4096 then (impl_MatBytes.j1 kj9 l0 a1 l3 a4 l6 t168 t169 (wrap64 ((l0.length : Int) / a1)) true a2_0 a2_1 a5_0 a5_1 a7_0 a7_1) else (if (wrap64 ((wrap64 ((l0.length : Int) / a1)) * a4)) > 4096 then (impl_MatBytes.j1 kj9 l0 a1 l3 a4 l6 t168 t169 (wrap64 ((l0.length : Int) / a1)) true a2_0 a2_1 a5_0 a5_1 a7_0 a7_1) else (impl_MatBytes.j1 kj9 l0 a1 l3 a4 l6 t168 t169 (wrap64 ((l0.length : Int) / a1)) (decide ((wrap64 ((wrap64 ((wrap64 ((l0.length : Int) / a1)) * a4)) * a1)) > 65536)) a2_0 a2_1 a5_0 a5_1 a7_0 a7_1)))) = some r := by rw [if_neg (show ¬ (false = true) by decide)] at H; exact H
    clear H
    have H := H1
    clear H1
    by_cases c30 : a1 = 0
    · rw [if_pos c30] at H
      exact absurd H (by simp)
    rw [if_neg c30] at H
    have c30b0 : (a1 == 0) = false := beq_eq_false_iff_ne.mpr c30
    have c30b1 : (a1 != 0) = true := bne_iff_ne.mpr c30
    have HC31 := zK H
    clear H
    go_upto_region 5 with (fail)
    go_cut [91] (fun v91 wc => ∃ (kq : Nat) (x91_30 : Bool), v91 = .bool x91_30 ∧ Aside0 (impl_MatBytes.j1 kq l0 a1 l3 a4 l6 t168 t169 (wrap64 ((l0.length : Int) / a1)) x91_30 a2_0 a2_1 a5_0 a5_1 a7_0 a7_1 = some r) ∧ Aside0 (kq ≤ kj9) ∧ Aside0 (Kd.V (Kd.int .i64) 3 wc w.heap.size (fun k_ => ((P0_ k_ ∨ P3_ k_) ∨ w.heap.size ≤ k_) ∧ k_ ≠ gb165 ∧ k_ ≠ gb166 ∧ k_ ≠ gb167) (.slice A0 l0.length c0) l0) ∧ Aside0 (Kd.V (Kd.int .i64) 3 wc w.heap.size (fun k_ => ((P0_ k_ ∨ P3_ k_) ∨ w.heap.size ≤ k_) ∧ k_ ≠ gb165 ∧ k_ ≠ gb166 ∧ k_ ≠ gb167) (.slice A3 l3.length c3) l3) ∧ Aside0 (wc.heap[gb165]? = some (.cells #[.int .i64 a2_0, .int .i64 a2_1] 45 (0, 0))) ∧ Aside0 (wc.heap[gb166]? = some (.cells #[.int .i64 a5_0, .int .i64 a5_1] 45 (0, 0))) ∧ Aside0 (wc.heap[gb167]? = some (.cells #[.int .i64 a7_0, .int .i64 a7_1] 45 (0, 0))) ∧ Aside0 (Below w.heap.size w wc))
    case first =>
     have H := HC31.out
     clear HC31
     by_cases c32 : (wrap64 ((l0.length : Int) / a1)) > 4096
     · rw [if_pos c32] at H
       have c32b0 : decide (4096 < (wrap64 ((l0.length : Int) / a1))) = true := decide_eq_true c32
       clear c32
       (first | rw [c32b0] | (simp only [i64_w, i32_w]; rw [c32b0]) | skip)
       have H' := zK H
       clear H
       go_wp2
       go_meet
       case rel => exact ⟨_, (true), zR, H', ⟨by have := HJ9.out; first | omega | exact Nat.le_refl _⟩, ⟨by (with_reducible repeat (first | apply Kd.V_alloc | apply Kd.V_drewN | apply Kd.V_drew)); exact HO_0.out⟩, ⟨by (with_reducible repeat (first | apply Kd.V_alloc | apply Kd.V_drewN | apply Kd.V_drew)); exact HO_3.out⟩, ⟨by (with_reducible repeat (first | refine zn ?_ _ | refine zd ?_ | refine za ?_ _)); exact BK165.out⟩, ⟨by (with_reducible repeat (first | refine zn ?_ _ | refine zd ?_ | refine za ?_ _)); exact BK166.out⟩, ⟨by (with_reducible repeat (first | refine zn ?_ _ | refine zd ?_ | refine za ?_ _)); exact BK167.out⟩, ⟨zB⟩⟩
     rw [if_neg c32] at H
     have c32b0 : decide (4096 < (wrap64 ((l0.length : Int) / a1))) = false := decide_eq_false c32
     clear c32
     (first | rw [c32b0] | (simp only [i64_w, i32_w]; rw [c32b0]) | skip)
     by_cases c33 : (wrap64 ((wrap64 ((l0.length : Int) / a1)) * a4)) > 4096
     · rw [if_pos c33] at H
       have c33b0 : decide (4096 < (wrap64 ((wrap64 ((l0.length : Int) / a1)) * a4))) = true := decide_eq_true c33
       clear c33
       have H' := zK H
       clear H
       go_wp2
       go_meet
       case rel => exact ⟨_, (true), zR, H', ⟨by have := HJ9.out; first | omega | exact Nat.le_refl _⟩, ⟨by (with_reducible repeat (first | apply Kd.V_alloc | apply Kd.V_drewN | apply Kd.V_drew)); exact HO_0.out⟩, ⟨by (with_reducible repeat (first | apply Kd.V_alloc | apply Kd.V_drewN | apply Kd.V_drew)); exact HO_3.out⟩, ⟨by (with_reducible repeat (first | refine zn ?_ _ | refine zd ?_ | refine za ?_ _)); exact BK165.out⟩, ⟨by (with_reducible repeat (first | refine zn ?_ _ | refine zd ?_ | refine za ?_ _)); exact BK166.out⟩, ⟨by (with_reducible repeat (first | refine zn ?_ _ | refine zd ?_ | refine za ?_ _)); exact BK167.out⟩, ⟨zB⟩⟩
     rw [if_neg c33] at H
     have c33b0 : decide (4096 < (wrap64 ((wrap64 ((l0.length : Int) / a1)) * a4))) = false := decide_eq_false c33
     clear c33
     have H' := zK H
     clear H
     go_wp2
     go_meet
     case rel => exact ⟨_, (decide ((wrap64 ((wrap64 ((wrap64 ((l0.length : Int) / a1)) * a4)) * a1)) > 65536)), zR, H', ⟨by have := HJ9.out; first | omega | exact Nat.le_refl _⟩, ⟨by (with_reducible repeat (first | apply Kd.V_alloc | apply Kd.V_drewN | apply Kd.V_drew)); exact HO_0.out⟩, ⟨by (with_reducible repeat (first | apply Kd.V_alloc | apply Kd.V_drewN | apply Kd.V_drew)); exact HO_3.out⟩, ⟨by (with_reducible repeat (first | refine zn ?_ _ | refine zd ?_ | refine za ?_ _)); exact BK165.out⟩, ⟨by (with_reducible repeat (first | refine zn ?_ _ | refine zd ?_ | refine za ?_ _)); exact BK166.out⟩, ⟨by (with_reducible repeat (first | refine zn ?_ _ | refine zd ?_ | refine za ?_ _)); exact BK167.out⟩, ⟨zB⟩⟩
    case rest =>
     clear HC31
     try clear c1
     try clear c2
     try clear p2
     try clear c3
     try clear c6
     try clear p6
     try clear c14
     try clear c15
     try clear c17
     try clear c18
     try clear c21
     try clear c23
     try clear c25
     try clear c26
     try clear c26b0
     try clear c26b1
     try clear c27
     try clear c27b0
     try clear c27b1
     try clear c28
     try clear c28b0
     try clear c28b1
     try clear c29
     try clear c30
     try clear c30b0
     try clear c30b1
     try clear c32
     try clear c32b0
     try clear c33
     try clear c33b0
     try clear hcz16_0
     try clear hcz16_1
     try clear hcz18_0
     try clear hcz18_1
     try clear hcz19_0
     try clear hcz19_1
     try clear hfz16_0
     try clear hfz16_1
     try clear hfz18_0
     try clear hfz18_1
     try clear hfz19_0
     try clear hfz19_1
     try clear p2
     try clear p6
     obtain ⟨kq, x91_30, rfl, HA, HJ30, HO_0, HO_3, BK165, BK166, BK167, HB⟩ := hcut
     cases kq with
     | zero => exact absurd HA.out (by simp [impl_MatBytes.j1])
     | succ kj30 =>
      have H := HA.out
      clear HA
      simp only [impl_MatBytes.j1] at H
      by_cases c34 : x91_30 = true
      · subst c34
        have H1 : (some ([] : List Int)) = some r := by rw [if_pos rfl] at H; exact H
        clear H
        have H := H1
        clear H1
        obtain rfl := Option.some.inj H
        go_wp2
        go_ret
        exact ⟨_, by first | rfl | (simp [errW_none, errW_some] <;> rfl) | (simp [*, errW_none, errW_some] <;> rfl), by first | exact Kd.R_nil _ _ _ _ _ | exact Kd.N_nil _ _ _ _ _ | exact Kd.V_nil _ _ _ _ _ | exact Kd.Q_nil _ _ _ _ _ | exact Kd.S_nil _ _ _ _ _, zB⟩
      replace c34 := Bool.eq_false_iff.mpr c34
      subst c34
      have H1 : ((some (([l0, l3] : List (List Int)) : List (List Int))).bind fun y173 => (impl_MatBytes.l0 kj30 l0 a1 l3 a4 l6 t168 t169 (wrap64 ((l0.length : Int) / a1)) y173 (y173.length : Int) 0 a2_0 a2_1 a5_0 a5_1 a7_0 a7_1)) = some r := by rw [if_neg (show ¬ (false = true) by decide)] at H; exact H
      clear H
      have H := H1
      clear H1
      obtain ⟨y173, hy173⟩ : ∃ y_ : List (List Int), y_ = (([l0, l3] : List (List Int))) := ⟨_, rfl⟩
      replace H : (impl_MatBytes.l0 kj30 l0 a1 l3 a4 l6 t168 t169 (wrap64 ((l0.length : Int) / a1)) y173 (y173.length : Int) 0 a2_0 a2_1 a5_0 a5_1 a7_0 a7_1) = some r := by first | (rw [hy173]; with_reducible exact H) | (have H2_ := (Option.bind_some _ _).symm.trans H; rw [hy173]; with_reducible exact H2_) | (have H2_ := (Option.bind_some _ _).symm.trans H; with_reducible exact H2_) | with_reducible exact H | (rw [hy173]; exact H) | exact H
      have Ny173 := zK hy173
      clear hy173
      have H' := zK H
      clear H
      go_wp2_with (first | ((with_reducible refine gate_dst (N := 94) rfl ?_); (try (refine gate_guard (by rfl) ?_; dsimp only)); refine Kd.N_lit (Kd.slice 3 (Kd.int .i64)) _ 22 ?hg (N' := 94) ?hd (xs := ([l0, l3] : List (List Int))) (inner := [.slice A0 l0.length c0, .slice A3 l3.length c3]) (ok := (fun k_ => ((P0_ k_ ∨ P3_ k_) ∨ w.heap.size ≤ k_) ∧ k_ ≠ gb165 ∧ k_ ≠ gb166 ∧ k_ ≠ gb167)) (okp := (fun k_ => ((P0_ k_ ∨ P3_ k_) ∨ w.heap.size ≤ k_) ∧ k_ ≠ gb165 ∧ k_ ≠ gb166 ∧ k_ ≠ gb167)) ?hr ?hp (fun _ hk => hk) ((show ∀ k_, wc.heap.size ≤ k_ → (fun k_ => ((P0_ k_ ∨ P3_ k_) ∨ w.heap.size ≤ k_) ∧ k_ ≠ gb165 ∧ k_ ≠ gb166 ∧ k_ ≠ gb167) k_ from fun k_ hk => ⟨(.inr (Nat.le_trans (zz zB) hk)), Kd.freshB (g := gb165) (o := .cells #[.int .i64 a2_0, .int .i64 a2_1] 45 (0, 0)) (by (with_reducible repeat (first | refine zn ?_ _ | refine zd ?_ | refine za ?_ _)); exact BK165.out) k_ hk, Kd.freshB (g := gb166) (o := .cells #[.int .i64 a5_0, .int .i64 a5_1] 45 (0, 0)) (by (with_reducible repeat (first | refine zn ?_ _ | refine zd ?_ | refine za ?_ _)); exact BK166.out) k_ hk, Kd.freshB (g := gb167) (o := .cells #[.int .i64 a7_0, .int .i64 a7_1] 45 (0, 0)) (by (with_reducible repeat (first | refine zn ?_ _ | refine zd ?_ | refine za ?_ _)); exact BK167.out) k_ hk⟩) _ (Nat.le_refl _)) (Below.refl _ _) (Nat.le_refl _) (by simp) ?_; (case hd => rfl); (case hg => rfl); (case hr => first | (go_simp; done) | (go_simp; rfl)); (case hp => exact (Reps.one (show Kd.FK (Kd.slice 3 (Kd.int .i64)) _ _ l0 [.slice A0 l0.length c0] from (Kd.FK_slice_mk (Kd.V_reads' (Kd.V_mono (ok' := (fun k_ => ((P0_ k_ ∨ P3_ k_) ∨ w.heap.size ≤ k_) ∧ k_ ≠ gb165 ∧ k_ ≠ gb166 ∧ k_ ≠ gb167)) (HO_0.out) (fun k_ hk => ⟨hk.1, ⟨hk.2.1, ⟨hk.2.2.1, hk.2.2.2⟩⟩⟩))).2.1 (Kd.V_F (Kd.V_mono (ok' := (fun k_ => ((P0_ k_ ∨ P3_ k_) ∨ w.heap.size ≤ k_) ∧ k_ ≠ gb165 ∧ k_ ≠ gb166 ∧ k_ ≠ gb167)) (HO_0.out) (fun k_ hk => ⟨hk.1, ⟨hk.2.1, ⟨hk.2.2.1, hk.2.2.2⟩⟩⟩))))) (Reps.one (show Kd.FK (Kd.slice 3 (Kd.int .i64)) _ _ l3 [.slice A3 l3.length c3] from (Kd.FK_slice_mk (Kd.V_reads' (Kd.V_mono (ok' := (fun k_ => ((P0_ k_ ∨ P3_ k_) ∨ w.heap.size ≤ k_) ∧ k_ ≠ gb165 ∧ k_ ≠ gb166 ∧ k_ ≠ gb167)) (HO_3.out) (fun k_ hk => ⟨hk.1, ⟨hk.2.1, ⟨hk.2.2.1, hk.2.2.2⟩⟩⟩))).2.1 (Kd.V_F (Kd.V_mono (ok' := (fun k_ => ((P0_ k_ ∨ P3_ k_) ∨ w.heap.size ≤ k_) ∧ k_ ≠ gb165 ∧ k_ ≠ gb166 ∧ k_ ≠ gb167)) (HO_3.out) (fun k_ hk => ⟨hk.1, ⟨hk.2.1, ⟨hk.2.2.1, hk.2.2.2⟩⟩⟩))))) (Reps.none _ _)))); intro v174 w35 ho36 hb hg_ hnew_; clear hg_ hnew_; (first | rw [← Ny173.out] at ho36 | (simp only [Int.reduceToNat] at ho36; rw [← Ny173.out] at ho36)); have n0_ := zK (Kd.V_elder' (by (with_reducible repeat (first | apply Kd.V_alloc | apply Kd.V_drewN | apply Kd.V_drew)); exact HO_0.out) (Kd.N_base ho36) hb); have n1_ := zK (Kd.V_elder' (by (with_reducible repeat (first | apply Kd.V_alloc | apply Kd.V_drewN | apply Kd.V_drew)); exact HO_3.out) (Kd.N_base ho36) hb); have n2_ := zK (Kd.N_lower ho36 (zz zB)); have n3_ := zK (zg (g := gb165) (o := .cells #[.int .i64 a2_0, .int .i64 a2_1] 45 (0, 0)) (by (with_reducible repeat (first | refine zn ?_ _ | refine zd ?_ | refine za ?_ _)); exact BK165.out) hb); have n4_ := zK (zg (g := gb166) (o := .cells #[.int .i64 a5_0, .int .i64 a5_1] 45 (0, 0)) (by (with_reducible repeat (first | refine zn ?_ _ | refine zd ?_ | refine za ?_ _)); exact BK166.out) hb); have n5_ := zK (zg (g := gb167) (o := .cells #[.int .i64 a7_0, .int .i64 a7_1] 45 (0, 0)) (by (with_reducible repeat (first | refine zn ?_ _ | refine zd ?_ | refine za ?_ _)); exact BK167.out) hb); have n6_ := zK (zp zB hb); clear HO_0; clear HO_3; clear BK165; clear BK166; clear BK167; clear HB; have HO_0 := n0_; have HO_3 := n1_; have HO175 := n2_; have BK165 := n3_; have BK166 := n4_; have BK167 := n5_; have HB := n6_; clear n0_ n1_ n2_ n3_ n4_ n5_ n6_; clear hb ho36; obtain ⟨Ao37, co37, eo37⟩ := Kd.N_slice HO175.out; subst eo37))
      go_loopg [96] kj30 (fun kq v96 w' => ∃ (x96_3 : Int), v96 = .int .i64 x96_3 ∧ Aside0 (impl_MatBytes.l0 kq l0 a1 l3 a4 l6 t168 t169 (wrap64 ((l0.length : Int) / a1)) y173 (y173.length : Int) x96_3 a2_0 a2_1 a5_0 a5_1 a7_0 a7_1 = some r) ∧ Aside0 (kq ≤ kj30) ∧ Aside0 (Kd.V (Kd.int .i64) 3 w' w.heap.size (fun k_ => ((P0_ k_ ∨ P3_ k_) ∨ w.heap.size ≤ k_) ∧ some k_ ≠ ((.slice Ao37 y173.length co37) : Value).ownBlock ∧ k_ ≠ gb165 ∧ k_ ≠ gb166 ∧ k_ ≠ gb167) (.slice A0 l0.length c0) l0) ∧ Aside0 (Kd.V (Kd.int .i64) 3 w' w.heap.size (fun k_ => ((P0_ k_ ∨ P3_ k_) ∨ w.heap.size ≤ k_) ∧ some k_ ≠ ((.slice Ao37 y173.length co37) : Value).ownBlock ∧ k_ ≠ gb165 ∧ k_ ≠ gb166 ∧ k_ ≠ gb167) (.slice A3 l3.length c3) l3) ∧ Aside0 (Kd.N (Kd.slice 3 (Kd.int .i64)) 22 w' w.heap.size (fun k_ => ((P0_ k_ ∨ P3_ k_) ∨ w.heap.size ≤ k_) ∧ k_ ≠ gb165 ∧ k_ ≠ gb166 ∧ k_ ≠ gb167) (.slice Ao37 y173.length co37) y173) ∧ Aside0 (w'.heap[gb165]? = some (.cells #[.int .i64 a2_0, .int .i64 a2_1] 45 (0, 0))) ∧ Aside0 (w'.heap[gb166]? = some (.cells #[.int .i64 a5_0, .int .i64 a5_1] 45 (0, 0))) ∧ Aside0 (w'.heap[gb167]? = some (.cells #[.int .i64 a7_0, .int .i64 a7_1] 45 (0, 0))) ∧ Aside0 (Below w.heap.size w w'))
      case atStart => exact ⟨(0), zR, H', ⟨Nat.le_refl _⟩, ⟨by (with_reducible repeat (first | apply Kd.V_alloc | apply Kd.V_drewN | apply Kd.V_drew)); exact Kd.V_mono HO_0.out (fun _ hk => ⟨hk.1.1, ⟨hk.2, ⟨hk.1.2.1, ⟨hk.1.2.2.1, hk.1.2.2.2⟩⟩⟩⟩)⟩, ⟨by (with_reducible repeat (first | apply Kd.V_alloc | apply Kd.V_drewN | apply Kd.V_drew)); exact Kd.V_mono HO_3.out (fun _ hk => ⟨hk.1.1, ⟨hk.2, ⟨hk.1.2.1, ⟨hk.1.2.2.1, hk.1.2.2.2⟩⟩⟩⟩)⟩, ⟨by (with_reducible repeat (first | apply Kd.N_alloc | apply Kd.N_drewN | apply Kd.N_drew)); exact HO175.out⟩, ⟨by (with_reducible repeat (first | refine zn ?_ _ | refine zd ?_ | refine za ?_ _)); exact BK165.out⟩, ⟨by (with_reducible repeat (first | refine zn ?_ _ | refine zd ?_ | refine za ?_ _)); exact BK166.out⟩, ⟨by (with_reducible repeat (first | refine zn ?_ _ | refine zd ?_ | refine za ?_ _)); exact BK167.out⟩, ⟨zB⟩⟩
      clear H'
      try clear c1
      try clear c2
      try clear p2
      try clear c3
      try clear c6
      try clear p6
      try clear c14
      try clear c15
      try clear c17
      try clear c18
      try clear c21
      try clear c23
      try clear c25
      try clear c26
      try clear c26b0
      try clear c26b1
      try clear c27
      try clear c27b0
      try clear c27b1
      try clear c28
      try clear c28b0
      try clear c28b1
      try clear c29
      try clear c30
      try clear c30b0
      try clear c30b1
      try clear c32
      try clear c32b0
      try clear c33
      try clear c33b0
      try clear c34
      try clear hcz16_0
      try clear hcz16_1
      try clear hcz18_0
      try clear hcz18_1
      try clear hcz19_0
      try clear hcz19_1
      try clear hfz16_0
      try clear hfz16_1
      try clear hfz18_0
      try clear hfz18_1
      try clear hfz19_0
      try clear hfz19_1
      try clear p2
      try clear p6
      obtain ⟨x96_3, rfl, HA, HK3, HO_0, HO_3, HO_94, BK165, BK166, BK167, HB⟩ := hrel
      rcases gk with _ | k3
      · exact absurd HA.out (by simp [impl_MatBytes.l0])
      have H := HA.out
      clear HA
      simp only [impl_MatBytes.l0] at H
      by_cases c38 : x96_3 < (y173.length : Int)
      · rw [if_pos c38] at H
        have c38b0 : decide (x96_3 < (y173.length : Int)) = true := decide_eq_true c38
        clear c38
        by_cases c39 : 0 ≤ x96_3
        rotate_left
        · rw [if_neg c39] at H
          exact absurd H (by simp)
        rw [if_pos c39] at H
        have c39b0 : decide (0 ≤ x96_3) = true := decide_eq_true c39
        clear c39
        by_cases c40 : x96_3 < (y173.length : Int)
        rotate_left
        · rw [if_neg c40] at H
          exact absurd H (by simp)
        rw [if_pos c40] at H
        have c40b0 : decide (x96_3 < (y173.length : Int)) = true := decide_eq_true c40
        clear c40
        have H' := zK H
        clear H
        have p176 : 0 ≤ (x96_3 : Int) := of_decide_eq_true zA
        have q176 : x96_3 < (y173.length : Int) := of_decide_eq_true zA
        obtain ⟨ad176, A176_0, c176_0, e176, hx176_0, hl176_0, hi176_0⟩ := at_L3 (Kd.N_reads' HO_94.out).2.2 x96_3 p176 q176
        cases e176
        obtain ⟨ce176, hce176, hMe176, hcc176⟩ := Kd.N_get HO_94.out [] x96_3 p176 (by first | exact q176 | exact of_decide_eq_true zA | (have e_ := (Kd.N_reads' HO_94.out).1; omega))
        obtain ⟨ua176_0, uc176_0, rfl, ul176_0, ge176_0⟩ := Kd.FK_slice_open hMe176
        have hv176_0 := hcc176 0 _ rfl
        rw [Nat.add_zero, show ((Kd.slice 3 (Kd.int .i64))).sz = 1 from rfl, Nat.mul_one] at hv176_0
        replace hv176_0 := Option.some.inj (hv176_0.symm.trans hx176_0)
        injection hv176_0 with hva_ hvn_ hvc_
        rw [hva_] at ge176_0
        rw [hvc_] at ul176_0
        have HL176_0 := zK (show Kd.V (Kd.int .i64) 3 _ w.heap.size _ _ (rd_L3 y173 x96_3) from Kd.V_mk ul176_0 ge176_0)
        clear hva_ hvn_ hvc_ ge176_0 ul176_0
        clear hcc176 hce176
        have HR176_0 := zK hi176_0
        have HC176_0 := zK hl176_0
        clear hi176_0 hl176_0
        replace p176 := eq_true p176
        replace q176 := eq_true q176
        go_wp2
        go_loopg [102] k3 (fun kq v102 w' => ∃ (x102_4 : Int), v102 = .int .i64 x102_4 ∧ Aside0 (impl_MatBytes.l1 kq l0 a1 l3 a4 l6 t168 t169 (wrap64 ((l0.length : Int) / a1)) y173 (y173.length : Int) x96_3 (rd_L3 y173 x96_3) ((rd_L3 y173 x96_3).length : Int) x102_4 a2_0 a2_1 a5_0 a5_1 a7_0 a7_1 = some r) ∧ Aside0 (kq ≤ k3) ∧ Aside0 (Kd.V (Kd.int .i64) 3 w' w.heap.size (fun k_ => ((P0_ k_ ∨ P3_ k_) ∨ w.heap.size ≤ k_) ∧ some k_ ≠ ((.slice (some ad176) y173.length co37) : Value).ownBlock ∧ k_ ≠ gb165 ∧ k_ ≠ gb166 ∧ k_ ≠ gb167) (.slice A0 l0.length c0) l0) ∧ Aside0 (Kd.V (Kd.int .i64) 3 w' w.heap.size (fun k_ => ((P0_ k_ ∨ P3_ k_) ∨ w.heap.size ≤ k_) ∧ some k_ ≠ ((.slice (some ad176) y173.length co37) : Value).ownBlock ∧ k_ ≠ gb165 ∧ k_ ≠ gb166 ∧ k_ ≠ gb167) (.slice A3 l3.length c3) l3) ∧ Aside0 (Kd.N (Kd.slice 3 (Kd.int .i64)) 22 w' w.heap.size (fun k_ => ((P0_ k_ ∨ P3_ k_) ∨ w.heap.size ≤ k_) ∧ k_ ≠ gb165 ∧ k_ ≠ gb166 ∧ k_ ≠ gb167) (.slice (some ad176) y173.length co37) y173) ∧ Aside0 (w'.heap[gb165]? = some (.cells #[.int .i64 a2_0, .int .i64 a2_1] 45 (0, 0))) ∧ Aside0 (w'.heap[gb166]? = some (.cells #[.int .i64 a5_0, .int .i64 a5_1] 45 (0, 0))) ∧ Aside0 (w'.heap[gb167]? = some (.cells #[.int .i64 a7_0, .int .i64 a7_1] 45 (0, 0))) ∧ Aside0 (Kd.C (Kd.int .i64) w' A176_0 (rd_L3 y173 x96_3).length (rd_L3 y173 x96_3)) ∧ Aside0 (Below w.heap.size w w'))
        case atStart => exact ⟨(0), zR, H', ⟨Nat.le_refl _⟩, ⟨by (with_reducible repeat (first | apply Kd.V_alloc | apply Kd.V_drewN | apply Kd.V_drew)); exact HO_0.out⟩, ⟨by (with_reducible repeat (first | apply Kd.V_alloc | apply Kd.V_drewN | apply Kd.V_drew)); exact HO_3.out⟩, ⟨by (with_reducible repeat (first | apply Kd.N_alloc | apply Kd.N_drewN | apply Kd.N_drew)); exact HO_94.out⟩, ⟨by (with_reducible repeat (first | refine zn ?_ _ | refine zd ?_ | refine za ?_ _)); exact BK165.out⟩, ⟨by (with_reducible repeat (first | refine zn ?_ _ | refine zd ?_ | refine za ?_ _)); exact BK166.out⟩, ⟨by (with_reducible repeat (first | refine zn ?_ _ | refine zd ?_ | refine za ?_ _)); exact BK167.out⟩, ⟨by repeat (first | (with_reducible exact HR176_0.out) | (with_reducible refine Kd.C_alloc ?_ _) | (with_reducible refine Kd.C_drewN ?_ _) | (with_reducible refine Kd.C_drew ?_) | exact HR176_0.out)⟩, ⟨zB⟩⟩
        clear H'
        try clear c1
        try clear p1
        try clear q1
        try clear hx1
        try clear c2
        try clear p2
        try clear c3
        try clear c4
        try clear c6
        try clear p6
        try clear c14
        try clear c15
        try clear c17
        try clear p17
        try clear q17
        try clear hx17
        try clear c18
        try clear c21
        try clear c23
        try clear c25
        try clear c26
        try clear c26b0
        try clear c26b1
        try clear c27
        try clear c27b0
        try clear c27b1
        try clear c28
        try clear c28b0
        try clear c28b1
        try clear c29
        try clear c30
        try clear c30b0
        try clear c30b1
        try clear c32
        try clear c32b0
        try clear c33
        try clear c33b0
        try clear c34
        try clear c38
        try clear c38b0
        try clear c39
        try clear c39b0
        try clear c40
        try clear c40b0
        try clear hcz16_0
        try clear hcz16_1
        try clear hcz18_0
        try clear hcz18_1
        try clear hcz19_0
        try clear hcz19_1
        try clear hfz16_0
        try clear hfz16_1
        try clear hfz18_0
        try clear hfz18_1
        try clear hfz19_0
        try clear hfz19_1
        try clear hx176_0
        try clear p176
        try clear p2
        try clear p6
        try clear q176
        obtain ⟨x102_4, rfl, HA, HK4, HO_0, HO_3, HO_94, BK165, BK166, BK167, HR176_0, HB⟩ := hrel
        rcases gk with _ | k4
        · exact absurd HA.out (by simp [impl_MatBytes.l1])
        have H := HA.out
        clear HA
        simp only [impl_MatBytes.l1] at H
        by_cases c41 : x102_4 < ((rd_L3 y173 x96_3).length : Int)
        rotate_left
        · rw [if_neg c41] at H
          have c41b0 : decide (x102_4 < ((rd_L3 y173 x96_3).length : Int)) = false := decide_eq_false c41
          clear c41
          have H' := zK H
          clear H
          go_wp2
          go_roundg k4
          case measure => have := HJ9.out; have := HJ30.out; have := HK3.out; have := HK4.out; omega
          case rel => exact ⟨(wrap64 (x96_3 + 1)), zR, H', ⟨by have := HJ9.out; have := HJ30.out; have := HK3.out; have := HK4.out; omega⟩, ⟨by (with_reducible repeat (first | apply Kd.V_alloc | apply Kd.V_drewN | apply Kd.V_drew)); exact HO_0.out⟩, ⟨by (with_reducible repeat (first | apply Kd.V_alloc | apply Kd.V_drewN | apply Kd.V_drew)); exact HO_3.out⟩, ⟨by (with_reducible repeat (first | apply Kd.N_alloc | apply Kd.N_drewN | apply Kd.N_drew)); exact HO_94.out⟩, ⟨by (with_reducible repeat (first | refine zn ?_ _ | refine zd ?_ | refine za ?_ _)); exact BK165.out⟩, ⟨by (with_reducible repeat (first | refine zn ?_ _ | refine zd ?_ | refine za ?_ _)); exact BK166.out⟩, ⟨by (with_reducible repeat (first | refine zn ?_ _ | refine zd ?_ | refine za ?_ _)); exact BK167.out⟩, ⟨zB⟩⟩
        rw [if_pos c41] at H
        have c41b0 : decide (x102_4 < ((rd_L3 y173 x96_3).length : Int)) = true := decide_eq_true c41
        clear c41
        by_cases c42 : 0 ≤ x102_4
        rotate_left
        · rw [if_neg c42] at H
          exact absurd H (by simp)
        rw [if_pos c42] at H
        have c42b0 : decide (0 ≤ x102_4) = true := decide_eq_true c42
        clear c42
        by_cases c43 : x102_4 < ((rd_L3 y173 x96_3).length : Int)
        rotate_left
        · rw [if_neg c43] at H
          exact absurd H (by simp)
        rw [if_pos c43] at H
        have c43b0 : decide (x102_4 < ((rd_L3 y173 x96_3).length : Int)) = true := decide_eq_true c43
        clear c43
        replace H := Option.bind_eq_some_iff.mp H
        obtain ⟨t178, A440, H⟩ := H
        replace H : (if t178 = true then (impl_MatBytes.l1 k4 l0 a1 l3 a4 l6 t168 t169 (wrap64 ((l0.length : Int) / a1)) y173 (y173.length : Int) x96_3 (rd_L3 y173 x96_3) ((rd_L3 y173 x96_3).length : Int) (wrap64 (x102_4 + 1)) a2_0 a2_1 a5_0 a5_1 a7_0 a7_1) else (some ([] : List Int))) = some r := H
        have A44 := zK A440
        clear A440
        by_cases c45 : t178 = true
        rotate_left
        · replace c45 := Bool.eq_false_iff.mpr c45
          subst c45
          have H1 : (some ([] : List Int)) = some r := by rw [if_neg (show ¬ (false = true) by decide)] at H; exact H
          clear H
          have H := H1
          clear H1
          obtain rfl := Option.some.inj H
          have p177 : 0 ≤ (x102_4 : Int) := of_decide_eq_true zA
          have q177 : x102_4 < ((rd_L3 y173 x96_3).length : Int) := of_decide_eq_true zA
          obtain ⟨ad177, e177, hx177_0⟩ := Kd.at_int HR176_0.out x102_4 p177 q177
          cases e177
          (try replace hx177_0 := (HB.out.cell (World.block_lt_of_cell? w _ hx177_0)).trans hx177_0)
          replace p177 := eq_true p177
          replace q177 := eq_true q177
          go_wp2_with (first | ((with_reducible refine gate_callee (f := 66) rfl ?_); refine goesL_ (some 107) rfl rfl Try.func66 (by kernel_rfl) rfl #[.int .i64 (rd (rd_L3 y173 x96_3) x102_4)] rfl zL ?_; (with_reducible refine (impl_isByte.calls (rd (rd_L3 y173 x96_3) x102_4) false _ A44.out).mono ?_); rintro e w' ⟨rfl, ⟨nd, rfl⟩⟩; refine ⟨_, rfl, ?_⟩))
          go_ret
          exact ⟨_, by first | rfl | (simp [errW_none, errW_some] <;> rfl) | (simp [*, errW_none, errW_some] <;> rfl), by first | exact Kd.R_nil _ _ _ _ _ | exact Kd.N_nil _ _ _ _ _ | exact Kd.V_nil _ _ _ _ _ | exact Kd.Q_nil _ _ _ _ _ | exact Kd.S_nil _ _ _ _ _, zB⟩
        subst c45
        have H1 : (impl_MatBytes.l1 k4 l0 a1 l3 a4 l6 t168 t169 (wrap64 ((l0.length : Int) / a1)) y173 (y173.length : Int) x96_3 (rd_L3 y173 x96_3) ((rd_L3 y173 x96_3).length : Int) (wrap64 (x102_4 + 1)) a2_0 a2_1 a5_0 a5_1 a7_0 a7_1) = some r := by rw [if_pos rfl] at H; exact H
        clear H
        have H := H1
        clear H1
        have H' := zK H
        clear H
        have p177 : 0 ≤ (x102_4 : Int) := of_decide_eq_true zA
        have q177 : x102_4 < ((rd_L3 y173 x96_3).length : Int) := of_decide_eq_true zA
        obtain ⟨ad177, e177, hx177_0⟩ := Kd.at_int HR176_0.out x102_4 p177 q177
        cases e177
        (try replace hx177_0 := (HB.out.cell (World.block_lt_of_cell? w _ hx177_0)).trans hx177_0)
        replace p177 := eq_true p177
        replace q177 := eq_true q177
        go_wp2_with (first | ((with_reducible refine gate_callee (f := 66) rfl ?_); refine goesL_ (some 107) rfl rfl Try.func66 (by kernel_rfl) rfl #[.int .i64 (rd (rd_L3 y173 x96_3) x102_4)] rfl zL ?_; (with_reducible refine (impl_isByte.calls (rd (rd_L3 y173 x96_3) x102_4) true _ A44.out).mono ?_); rintro e w' ⟨rfl, ⟨nd, rfl⟩⟩; refine ⟨_, rfl, ?_⟩))
        go_roundg k4
        case measure => have := HJ9.out; have := HJ30.out; have := HK3.out; have := HK4.out; omega
        case rel => exact ⟨(wrap64 (x102_4 + 1)), zR, H', ⟨by have := HJ9.out; have := HJ30.out; have := HK3.out; have := HK4.out; omega⟩, ⟨by (with_reducible repeat (first | apply Kd.V_alloc | apply Kd.V_drewN | apply Kd.V_drew)); exact HO_0.out⟩, ⟨by (with_reducible repeat (first | apply Kd.V_alloc | apply Kd.V_drewN | apply Kd.V_drew)); exact HO_3.out⟩, ⟨by (with_reducible repeat (first | apply Kd.N_alloc | apply Kd.N_drewN | apply Kd.N_drew)); exact HO_94.out⟩, ⟨by (with_reducible repeat (first | refine zn ?_ _ | refine zd ?_ | refine za ?_ _)); exact BK165.out⟩, ⟨by (with_reducible repeat (first | refine zn ?_ _ | refine zd ?_ | refine za ?_ _)); exact BK166.out⟩, ⟨by (with_reducible repeat (first | refine zn ?_ _ | refine zd ?_ | refine za ?_ _)); exact BK167.out⟩, ⟨by repeat (first | (with_reducible exact HR176_0.out) | (with_reducible refine Kd.C_alloc ?_ _) | (with_reducible refine Kd.C_drewN ?_ _) | (with_reducible refine Kd.C_drew ?_) | exact HR176_0.out)⟩, ⟨zB⟩⟩
      rw [if_neg c38] at H
      have c38b0 : decide (x96_3 < (y173.length : Int)) = false := decide_eq_false c38
      clear c38
      have H' := zK H
      clear H
      go_wp2
      go_loopg [113] k3 (fun kq v113 w' => ∃ (x113_4 : Int), v113 = .int .i64 x113_4 ∧ Aside0 (impl_MatBytes.l2 kq l0 a1 l3 a4 l6 t168 t169 (wrap64 ((l0.length : Int) / a1)) l6 (l6.length : Int) x113_4 a2_0 a2_1 a5_0 a5_1 a7_0 a7_1 = some r) ∧ Aside0 (kq ≤ k3) ∧ Aside0 (Kd.V (Kd.int .i64) 3 w' w.heap.size (fun k_ => ((P0_ k_ ∨ P3_ k_) ∨ w.heap.size ≤ k_) ∧ k_ ≠ gb165 ∧ k_ ≠ gb166 ∧ k_ ≠ gb167) (.slice A0 l0.length c0) l0) ∧ Aside0 (Kd.V (Kd.int .i64) 3 w' w.heap.size (fun k_ => ((P0_ k_ ∨ P3_ k_) ∨ w.heap.size ≤ k_) ∧ k_ ≠ gb165 ∧ k_ ≠ gb166 ∧ k_ ≠ gb167) (.slice A3 l3.length c3) l3) ∧ Aside0 (w'.heap[gb165]? = some (.cells #[.int .i64 a2_0, .int .i64 a2_1] 45 (0, 0))) ∧ Aside0 (w'.heap[gb166]? = some (.cells #[.int .i64 a5_0, .int .i64 a5_1] 45 (0, 0))) ∧ Aside0 (w'.heap[gb167]? = some (.cells #[.int .i64 a7_0, .int .i64 a7_1] 45 (0, 0))) ∧ Aside0 (Below w.heap.size w w'))
      case atStart => exact ⟨(0), zR, H', ⟨Nat.le_refl _⟩, ⟨by (with_reducible repeat (first | apply Kd.V_alloc | apply Kd.V_drewN | apply Kd.V_drew)); exact Kd.V_mono HO_0.out (fun _ hk => ⟨hk.1, ⟨hk.2.2.1, ⟨hk.2.2.2.1, hk.2.2.2.2⟩⟩⟩)⟩, ⟨by (with_reducible repeat (first | apply Kd.V_alloc | apply Kd.V_drewN | apply Kd.V_drew)); exact Kd.V_mono HO_3.out (fun _ hk => ⟨hk.1, ⟨hk.2.2.1, ⟨hk.2.2.2.1, hk.2.2.2.2⟩⟩⟩)⟩, ⟨by (with_reducible repeat (first | refine zn ?_ _ | refine zd ?_ | refine za ?_ _)); exact BK165.out⟩, ⟨by (with_reducible repeat (first | refine zn ?_ _ | refine zd ?_ | refine za ?_ _)); exact BK166.out⟩, ⟨by (with_reducible repeat (first | refine zn ?_ _ | refine zd ?_ | refine za ?_ _)); exact BK167.out⟩, ⟨zB⟩⟩
      clear H'
      try clear c1
      try clear p1
      try clear q1
      try clear hx1
      try clear c2
      try clear p2
      try clear c3
      try clear c4
      try clear c6
      try clear p6
      try clear c14
      try clear c15
      try clear c17
      try clear p17
      try clear q17
      try clear hx17
      try clear c18
      try clear c21
      try clear c23
      try clear c25
      try clear c26
      try clear c26b0
      try clear c26b1
      try clear c27
      try clear c27b0
      try clear c27b1
      try clear c28
      try clear c28b0
      try clear c28b1
      try clear c29
      try clear c30
      try clear c30b0
      try clear c30b1
      try clear c32
      try clear c32b0
      try clear c33
      try clear c33b0
      try clear c34
      try clear c38
      try clear c38b0
      try clear c39
      try clear c39b0
      try clear c40
      try clear c40b0
      try clear c41
      try clear c41b0
      try clear c42
      try clear c42b0
      try clear c43
      try clear c43b0
      try clear c45
      try clear hcz16_0
      try clear hcz16_1
      try clear hcz18_0
      try clear hcz18_1
      try clear hcz19_0
      try clear hcz19_1
      try clear hfz16_0
      try clear hfz16_1
      try clear hfz18_0
      try clear hfz18_1
      try clear hfz19_0
      try clear hfz19_1
      try clear hx176_0
      try clear hx177_0
      try clear p1
      try clear p17
      try clear p176
      try clear p177
      try clear p2
      try clear p6
      try clear q1
      try clear q17
      try clear q176
      try clear q177
      obtain ⟨x113_4, rfl, HA, HK4, HO_0, HO_3, BK165, BK166, BK167, HB⟩ := hrel
      rcases gk with _ | k4
      · exact absurd HA.out (by simp [impl_MatBytes.l2])
      have H := HA.out
      clear HA
      simp only [impl_MatBytes.l2] at H
      by_cases c46 : x113_4 < (l6.length : Int)
      · rw [if_pos c46] at H
        have c46b0 : decide (x113_4 < (l6.length : Int)) = true := decide_eq_true c46
        clear c46
        by_cases c47 : 0 ≤ x113_4
        rotate_left
        · rw [if_neg c47] at H
          exact absurd H (by simp)
        rw [if_pos c47] at H
        have c47b0 : decide (0 ≤ x113_4) = true := decide_eq_true c47
        clear c47
        by_cases c48 : x113_4 < (l6.length : Int)
        rotate_left
        · rw [if_neg c48] at H
          exact absurd H (by simp)
        rw [if_pos c48] at H
        have c48b0 : decide (x113_4 < (l6.length : Int)) = true := decide_eq_true c48
        clear c48
        replace H := Option.bind_eq_some_iff.mp H
        obtain ⟨t180, A490, H⟩ := H
        replace H : (if t180 = true then (impl_MatBytes.l2 k4 l0 a1 l3 a4 l6 t168 t169 (wrap64 ((l0.length : Int) / a1)) l6 (l6.length : Int) (wrap64 (x113_4 + 1)) a2_0 a2_1 a5_0 a5_1 a7_0 a7_1) else (some ([] : List Int))) = some r := H
        have A49 := zK A490
        clear A490
        by_cases c50 : t180 = true
        rotate_left
        · replace c50 := Bool.eq_false_iff.mpr c50
          subst c50
          have H1 : (some ([] : List Int)) = some r := by rw [if_neg (show ¬ (false = true) by decide)] at H; exact H
          clear H
          have H := H1
          clear H1
          obtain rfl := Option.some.inj H
          have p179 : 0 ≤ (x113_4 : Int) := of_decide_eq_true zA
          have q179 : x113_4 < (l6.length : Int) := of_decide_eq_true zA
          obtain ⟨ad179, e179, hx179_0⟩ := Kd.at_int HR6.out x113_4 p179 q179
          cases e179
          (try replace hx179_0 := (HB.out.cell (World.block_lt_of_cell? w _ hx179_0)).trans hx179_0)
          replace p179 := eq_true p179
          replace q179 := eq_true q179
          go_wp2_with (first | ((with_reducible refine gate_callee (f := 65) rfl ?_); refine goesL_ (some 118) rfl rfl Try.func65 (by kernel_rfl) rfl #[.int .i64 (rd l6 x113_4), .int .i64 (-1073741824), .int .i64 1073741824] rfl zL ?_; (with_reducible refine (impl_within.calls (rd l6 x113_4) (-1073741824) 1073741824 false _ A49.out).mono ?_); rintro e w' ⟨rfl, ⟨nd, rfl⟩⟩; refine ⟨_, rfl, ?_⟩))
          go_ret
          exact ⟨_, by first | rfl | (simp [errW_none, errW_some] <;> rfl) | (simp [*, errW_none, errW_some] <;> rfl), by first | exact Kd.R_nil _ _ _ _ _ | exact Kd.N_nil _ _ _ _ _ | exact Kd.V_nil _ _ _ _ _ | exact Kd.Q_nil _ _ _ _ _ | exact Kd.S_nil _ _ _ _ _, zB⟩
        subst c50
        have H1 : (impl_MatBytes.l2 k4 l0 a1 l3 a4 l6 t168 t169 (wrap64 ((l0.length : Int) / a1)) l6 (l6.length : Int) (wrap64 (x113_4 + 1)) a2_0 a2_1 a5_0 a5_1 a7_0 a7_1) = some r := by rw [if_pos rfl] at H; exact H
        clear H
        have H := H1
        clear H1
        have H' := zK H
        clear H
        have p179 : 0 ≤ (x113_4 : Int) := of_decide_eq_true zA
        have q179 : x113_4 < (l6.length : Int) := of_decide_eq_true zA
        obtain ⟨ad179, e179, hx179_0⟩ := Kd.at_int HR6.out x113_4 p179 q179
        cases e179
        (try replace hx179_0 := (HB.out.cell (World.block_lt_of_cell? w _ hx179_0)).trans hx179_0)
        replace p179 := eq_true p179
        replace q179 := eq_true q179
        go_wp2_with (first | ((with_reducible refine gate_callee (f := 65) rfl ?_); refine goesL_ (some 118) rfl rfl Try.func65 (by kernel_rfl) rfl #[.int .i64 (rd l6 x113_4), .int .i64 (-1073741824), .int .i64 1073741824] rfl zL ?_; (with_reducible refine (impl_within.calls (rd l6 x113_4) (-1073741824) 1073741824 true _ A49.out).mono ?_); rintro e w' ⟨rfl, ⟨nd, rfl⟩⟩; refine ⟨_, rfl, ?_⟩))
        go_roundg k4
        case measure => have := HJ9.out; have := HJ30.out; have := HK3.out; have := HK4.out; omega
        case rel => exact ⟨(wrap64 (x113_4 + 1)), zR, H', ⟨by have := HJ9.out; have := HJ30.out; have := HK3.out; have := HK4.out; omega⟩, ⟨by (with_reducible repeat (first | apply Kd.V_alloc | apply Kd.V_drewN | apply Kd.V_drew)); exact HO_0.out⟩, ⟨by (with_reducible repeat (first | apply Kd.V_alloc | apply Kd.V_drewN | apply Kd.V_drew)); exact HO_3.out⟩, ⟨by (with_reducible repeat (first | refine zn ?_ _ | refine zd ?_ | refine za ?_ _)); exact BK165.out⟩, ⟨by (with_reducible repeat (first | refine zn ?_ _ | refine zd ?_ | refine za ?_ _)); exact BK166.out⟩, ⟨by (with_reducible repeat (first | refine zn ?_ _ | refine zd ?_ | refine za ?_ _)); exact BK167.out⟩, ⟨zB⟩⟩
      rw [if_neg c46] at H
      have c46b0 : decide (x113_4 < (l6.length : Int)) = false := decide_eq_false c46
      clear c46
      obtain ⟨y181, hy181⟩ : ∃ y_ : List Int, y_ = (([] : List Int)) := ⟨_, rfl⟩
      replace H : (impl_MatBytes.l3 k4 l0 a1 l3 a4 l6 t168 t169 y181 (wrap64 ((l0.length : Int) / a1)) 0 a2_0 a2_1 a5_0 a5_1 a7_0 a7_1) = some r := by first | (rw [hy181]; with_reducible exact H) | (have H2_ := (Option.bind_some _ _).symm.trans H; rw [hy181]; with_reducible exact H2_) | (have H2_ := (Option.bind_some _ _).symm.trans H; with_reducible exact H2_) | with_reducible exact H | (rw [hy181]; exact H) | exact H
      have Ny181 := zK hy181
      clear hy181
      have H' := zK H
      clear H
      go_wp2_with (first | ((with_reducible refine gate_dst (N := 121) rfl ?_); (try (refine gate_guard (by rfl) ?_; dsimp only)); refine Kd.R_lit (Kd.int .i64) _ 3 ?hg (N := 121) ?hd (xs := ([] : List Int)) (inner := []) (ok := fun _ => True) (okp := fun _ => True) ?hr ?hp (fun _ hk => hk) trivial (Below.refl _ _) (Nat.le_refl _) (by simp) ?_; (case hd => rfl); (case hg => rfl); (case hr => first | (go_simp; done) | (go_simp; rfl)); (case hp => exact (Reps.none _ _)); intro v182 w51 ho52 hb hg_ hnew_; clear hg_ hnew_; (first | rw [← Ny181.out] at ho52 | (simp only [Int.reduceToNat] at ho52; rw [← Ny181.out] at ho52)); have n0_ := zK (Kd.V_elder' (by (with_reducible repeat (first | apply Kd.V_alloc | apply Kd.V_drewN | apply Kd.V_drew)); exact HO_0.out) (Kd.R_base ho52) hb); have n1_ := zK (Kd.V_elder' (by (with_reducible repeat (first | apply Kd.V_alloc | apply Kd.V_drewN | apply Kd.V_drew)); exact HO_3.out) (Kd.R_base ho52) hb); have n2_ := zK (Kd.R_lower (Kd.R_newM (M := fun k_ => (w.heap.size ≤ k_)) ho52 (zz zB) (fun k_ h_ => h_)) (zz zB)); have n3_ := zK (zg (g := gb165) (o := .cells #[.int .i64 a2_0, .int .i64 a2_1] 45 (0, 0)) (by (with_reducible repeat (first | refine zn ?_ _ | refine zd ?_ | refine za ?_ _)); exact BK165.out) hb); have n4_ := zK (zg (g := gb166) (o := .cells #[.int .i64 a5_0, .int .i64 a5_1] 45 (0, 0)) (by (with_reducible repeat (first | refine zn ?_ _ | refine zd ?_ | refine za ?_ _)); exact BK166.out) hb); have n5_ := zK (zg (g := gb167) (o := .cells #[.int .i64 a7_0, .int .i64 a7_1] 45 (0, 0)) (by (with_reducible repeat (first | refine zn ?_ _ | refine zd ?_ | refine za ?_ _)); exact BK167.out) hb); have n6_ := zK (zp zB hb); clear HO_0; clear HO_3; clear BK165; clear BK166; clear BK167; clear HB; have HO_0 := n0_; have HO_3 := n1_; have HO183 := n2_; have BK165 := n3_; have BK166 := n4_; have BK167 := n5_; have HB := n6_; clear n0_ n1_ n2_ n3_ n4_ n5_ n6_; clear hb ho52))
      go_loopg [27, 123] k4 (fun kq v27 v123 w' => ∃ (x27_5 : List Int) (x123_5 : Int), v123 = .int .i64 x123_5 ∧ Aside0 (impl_MatBytes.l3 kq l0 a1 l3 a4 l6 t168 t169 x27_5 (wrap64 ((l0.length : Int) / a1)) x123_5 a2_0 a2_1 a5_0 a5_1 a7_0 a7_1 = some r) ∧ Aside0 (kq ≤ k4) ∧ Aside0 (Kd.V (Kd.int .i64) 3 w' w.heap.size (fun k_ => ((P0_ k_ ∨ P3_ k_) ∨ w.heap.size ≤ k_) ∧ some k_ ≠ (v27 : Value).ownBlock ∧ k_ ≠ gb165 ∧ k_ ≠ gb166 ∧ k_ ≠ gb167) (.slice A0 l0.length c0) l0) ∧ Aside0 (Kd.V (Kd.int .i64) 3 w' w.heap.size (fun k_ => ((P0_ k_ ∨ P3_ k_) ∨ w.heap.size ≤ k_) ∧ some k_ ≠ (v27 : Value).ownBlock ∧ k_ ≠ gb165 ∧ k_ ≠ gb166 ∧ k_ ≠ gb167) (.slice A3 l3.length c3) l3) ∧ Aside0 (Kd.R (Kd.int .i64) 3 w' w.heap.size (fun k_ => (w.heap.size ≤ k_)) v27 x27_5) ∧ Aside0 (w'.heap[gb165]? = some (.cells #[.int .i64 a2_0, .int .i64 a2_1] 45 (0, 0))) ∧ Aside0 (w'.heap[gb166]? = some (.cells #[.int .i64 a5_0, .int .i64 a5_1] 45 (0, 0))) ∧ Aside0 (w'.heap[gb167]? = some (.cells #[.int .i64 a7_0, .int .i64 a7_1] 45 (0, 0))) ∧ Aside0 (Below w.heap.size w w'))
      case atStart => exact ⟨(y181), (0), zR, H', ⟨Nat.le_refl _⟩, ⟨by (with_reducible repeat (first | apply Kd.V_alloc | apply Kd.V_drewN | apply Kd.V_drew)); exact Kd.V_mono HO_0.out (fun _ hk => ⟨hk.1.1, ⟨hk.2, ⟨hk.1.2.1, ⟨hk.1.2.2.1, hk.1.2.2.2⟩⟩⟩⟩)⟩, ⟨by (with_reducible repeat (first | apply Kd.V_alloc | apply Kd.V_drewN | apply Kd.V_drew)); exact Kd.V_mono HO_3.out (fun _ hk => ⟨hk.1.1, ⟨hk.2, ⟨hk.1.2.1, ⟨hk.1.2.2.1, hk.1.2.2.2⟩⟩⟩⟩)⟩, ⟨by (with_reducible repeat (first | apply Kd.R_alloc | apply Kd.R_drewN | apply Kd.R_drew)); exact Kd.R_mono HO183.out (fun _ hk => hk.1)⟩, ⟨by (with_reducible repeat (first | refine zn ?_ _ | refine zd ?_ | refine za ?_ _)); exact BK165.out⟩, ⟨by (with_reducible repeat (first | refine zn ?_ _ | refine zd ?_ | refine za ?_ _)); exact BK166.out⟩, ⟨by (with_reducible repeat (first | refine zn ?_ _ | refine zd ?_ | refine za ?_ _)); exact BK167.out⟩, ⟨zB⟩⟩
      clear H'
      try clear c1
      try clear p1
      try clear q1
      try clear hx1
      try clear c2
      try clear p2
      try clear c3
      try clear c4
      try clear c5
      try clear c6
      try clear p6
      try clear c14
      try clear c15
      try clear c17
      try clear p17
      try clear q17
      try clear hx17
      try clear c18
      try clear c21
      try clear c23
      try clear c25
      try clear c26
      try clear c26b0
      try clear c26b1
      try clear c27
      try clear c27b0
      try clear c27b1
      try clear c28
      try clear c28b0
      try clear c28b1
      try clear c29
      try clear c30
      try clear c30b0
      try clear c30b1
      try clear c32
      try clear c32b0
      try clear c33
      try clear c33b0
      try clear c34
      try clear c38
      try clear c38b0
      try clear c39
      try clear c39b0
      try clear c40
      try clear c40b0
      try clear c41
      try clear c41b0
      try clear c42
      try clear c42b0
      try clear c43
      try clear c43b0
      try clear c45
      try clear c46
      try clear c46b0
      try clear c47
      try clear c47b0
      try clear c48
      try clear c48b0
      try clear c50
      try clear hcz16_0
      try clear hcz16_1
      try clear hcz18_0
      try clear hcz18_1
      try clear hcz19_0
      try clear hcz19_1
      try clear hfz16_0
      try clear hfz16_1
      try clear hfz18_0
      try clear hfz18_1
      try clear hfz19_0
      try clear hfz19_1
      try clear hx176_0
      try clear hx177_0
      try clear hx179_0
      try clear p1
      try clear p17
      try clear p176
      try clear p177
      try clear p179
      try clear p2
      try clear p6
      try clear q1
      try clear q17
      try clear q176
      try clear q177
      try clear q179
      obtain ⟨x27_5, x123_5, rfl, HA, HK5, HO_0, HO_3, HO_27, BK165, BK166, BK167, HB⟩ := hrel
      rcases gk with _ | k5
      · exact absurd HA.out (by simp [impl_MatBytes.l3])
      have H := HA.out
      clear HA
      simp only [impl_MatBytes.l3] at H
      by_cases c53 : x123_5 < (wrap64 ((l0.length : Int) / a1))
      rotate_left
      · rw [if_neg c53] at H
        have c53b0 : decide (x123_5 < (wrap64 ((l0.length : Int) / a1))) = false := decide_eq_false c53
        clear c53
        obtain rfl := Option.some.inj H
        go_wp2
        go_ret
        exact ⟨_, by first | rfl | (simp [errW_none, errW_some] <;> rfl) | (simp [*, errW_none, errW_some] <;> rfl), by (with_reducible repeat (first | apply Kd.R_alloc | apply Kd.R_drewN | apply Kd.R_drew)); exact HO_27.out, zB⟩
      rw [if_pos c53] at H
      have c53b0 : decide (x123_5 < (wrap64 ((l0.length : Int) / a1))) = true := decide_eq_true c53
      clear c53
      have H' := zK H
      clear H
      go_wp2
      go_loopg [27, 127] k5 (fun kq v27 v127 w' => ∃ (x27_6 : List Int) (x127_6 : Int), v127 = .int .i64 x127_6 ∧ Aside0 (impl_MatBytes.l4 kq l0 a1 l3 a4 l6 t168 t169 x27_6 x123_5 (wrap64 ((l0.length : Int) / a1)) x123_5 a4 x127_6 a2_0 a2_1 a5_0 a5_1 a7_0 a7_1 = some r) ∧ Aside0 (kq ≤ k5) ∧ Aside0 (Kd.V (Kd.int .i64) 3 w' w.heap.size (fun k_ => ((P0_ k_ ∨ P3_ k_) ∨ w.heap.size ≤ k_) ∧ some k_ ≠ (v27 : Value).ownBlock ∧ k_ ≠ gb165 ∧ k_ ≠ gb166 ∧ k_ ≠ gb167) (.slice A0 l0.length c0) l0) ∧ Aside0 (Kd.V (Kd.int .i64) 3 w' w.heap.size (fun k_ => ((P0_ k_ ∨ P3_ k_) ∨ w.heap.size ≤ k_) ∧ some k_ ≠ (v27 : Value).ownBlock ∧ k_ ≠ gb165 ∧ k_ ≠ gb166 ∧ k_ ≠ gb167) (.slice A3 l3.length c3) l3) ∧ Aside0 (Kd.R (Kd.int .i64) 3 w' w.heap.size (fun k_ => (w.heap.size ≤ k_)) v27 x27_6) ∧ Aside0 (w'.heap[gb165]? = some (.cells #[.int .i64 a2_0, .int .i64 a2_1] 45 (0, 0))) ∧ Aside0 (w'.heap[gb166]? = some (.cells #[.int .i64 a5_0, .int .i64 a5_1] 45 (0, 0))) ∧ Aside0 (w'.heap[gb167]? = some (.cells #[.int .i64 a7_0, .int .i64 a7_1] 45 (0, 0))) ∧ Aside0 (Below w.heap.size w w'))
      case atStart => exact ⟨(x27_5), (0), zR, H', ⟨Nat.le_refl _⟩, ⟨by (with_reducible repeat (first | apply Kd.V_alloc | apply Kd.V_drewN | apply Kd.V_drew)); exact HO_0.out⟩, ⟨by (with_reducible repeat (first | apply Kd.V_alloc | apply Kd.V_drewN | apply Kd.V_drew)); exact HO_3.out⟩, ⟨by (with_reducible repeat (first | apply Kd.R_alloc | apply Kd.R_drewN | apply Kd.R_drew)); exact HO_27.out⟩, ⟨by (with_reducible repeat (first | refine zn ?_ _ | refine zd ?_ | refine za ?_ _)); exact BK165.out⟩, ⟨by (with_reducible repeat (first | refine zn ?_ _ | refine zd ?_ | refine za ?_ _)); exact BK166.out⟩, ⟨by (with_reducible repeat (first | refine zn ?_ _ | refine zd ?_ | refine za ?_ _)); exact BK167.out⟩, ⟨zB⟩⟩
      clear H'
      try clear c1
      try clear p1
      try clear q1
      try clear hx1
      try clear c2
      try clear p2
      try clear c3
      try clear c4
      try clear c5
      try clear c6
      try clear p6
      try clear c14
      try clear c15
      try clear c17
      try clear p17
      try clear q17
      try clear hx17
      try clear c18
      try clear c21
      try clear c23
      try clear c25
      try clear c26
      try clear c26b0
      try clear c26b1
      try clear c27
      try clear c27b0
      try clear c27b1
      try clear c28
      try clear c28b0
      try clear c28b1
      try clear c29
      try clear c30
      try clear c30b0
      try clear c30b1
      try clear c32
      try clear c32b0
      try clear c33
      try clear c33b0
      try clear c34
      try clear c38
      try clear c38b0
      try clear c39
      try clear c39b0
      try clear c40
      try clear c40b0
      try clear c41
      try clear c41b0
      try clear c42
      try clear c42b0
      try clear c43
      try clear c43b0
      try clear c45
      try clear c46
      try clear c46b0
      try clear c47
      try clear c47b0
      try clear c48
      try clear c48b0
      try clear c50
      try clear c53
      try clear c53b0
      try clear hcz16_0
      try clear hcz16_1
      try clear hcz18_0
      try clear hcz18_1
      try clear hcz19_0
      try clear hcz19_1
      try clear hfz16_0
      try clear hfz16_1
      try clear hfz18_0
      try clear hfz18_1
      try clear hfz19_0
      try clear hfz19_1
      try clear hx176_0
      try clear hx177_0
      try clear hx179_0
      try clear p1
      try clear p17
      try clear p176
      try clear p177
      try clear p179
      try clear p2
      try clear p6
      try clear q1
      try clear q17
      try clear q176
      try clear q177
      try clear q179
      obtain ⟨x27_6, x127_6, rfl, HA, HK6, HO_0, HO_3, HO_27, BK165, BK166, BK167, HB⟩ := hrel
      rcases gk with _ | k6
      · exact absurd HA.out (by simp [impl_MatBytes.l4])
      have H := HA.out
      clear HA
      simp only [impl_MatBytes.l4] at H
      by_cases c54 : x127_6 < a4
      rotate_left
      · rw [if_neg c54] at H
        have c54b0 : decide (x127_6 < a4) = false := decide_eq_false c54
        clear c54
        have H' := zK H
        clear H
        go_wp2
        go_roundg k6
        case measure => have := HJ9.out; have := HJ30.out; have := HK3.out; have := HK4.out; have := HK5.out; have := HK6.out; omega
        case rel => exact ⟨(x27_6), (wrap64 (x123_5 + 1)), zR, H', ⟨by have := HJ9.out; have := HJ30.out; have := HK3.out; have := HK4.out; have := HK5.out; have := HK6.out; omega⟩, ⟨by (with_reducible repeat (first | apply Kd.V_alloc | apply Kd.V_drewN | apply Kd.V_drew)); exact HO_0.out⟩, ⟨by (with_reducible repeat (first | apply Kd.V_alloc | apply Kd.V_drewN | apply Kd.V_drew)); exact HO_3.out⟩, ⟨by (with_reducible repeat (first | apply Kd.R_alloc | apply Kd.R_drewN | apply Kd.R_drew)); exact HO_27.out⟩, ⟨by (with_reducible repeat (first | refine zn ?_ _ | refine zd ?_ | refine za ?_ _)); exact BK165.out⟩, ⟨by (with_reducible repeat (first | refine zn ?_ _ | refine zd ?_ | refine za ?_ _)); exact BK166.out⟩, ⟨by (with_reducible repeat (first | refine zn ?_ _ | refine zd ?_ | refine za ?_ _)); exact BK167.out⟩, ⟨zB⟩⟩
      rw [if_pos c54] at H
      have c54b0 : decide (x127_6 < a4) = true := decide_eq_true c54
      clear c54
      obtain ⟨ji55, hji55⟩ : ∃ j_ : Int, (wrap64 (x123_5 * a1)) = j_ := ⟨_, rfl⟩
      replace H : (if 0 ≤ (ji55) then (if (ji55) ≤ (wrap64 ((wrap64 (x123_5 + 1)) * a1)) then (if (wrap64 ((wrap64 (x123_5 + 1)) * a1)) ≤ (l0.length : Int) then (if 0 ≤ (wrap64 (x127_6 * a1)) then (if (wrap64 (x127_6 * a1)) ≤ (wrap64 ((wrap64 (x127_6 + 1)) * a1)) then (if (wrap64 ((wrap64 (x127_6 + 1)) * a1)) ≤ (l3.length : Int) then ((impl_DotBytes.f k6 a2_0 a2_1 a5_0 a5_1 ((l0.take ((wrap64 ((wrap64 (x123_5 + 1)) * a1)) : Int).toNat).drop ((ji55) : Int).toNat) ((l3.take ((wrap64 ((wrap64 (x127_6 + 1)) * a1)) : Int).toNat).drop ((wrap64 (x127_6 * a1)) : Int).toNat)).bind fun t194 => (if 0 ≤ x127_6 then (if x127_6 < (l6.length : Int) then ((impl_bring_int.f (wrap64 (t194 + (rd l6 x127_6))) (-1073741824) 1073741824).bind fun t196 => ((impl_Requant.f k6 t196 t168 t169 a7_0 a7_1).bind fun t197 => (if x27_6.length < 17592186044416 then (impl_MatBytes.l4 k6 l0 a1 l3 a4 l6 t168 t169 (x27_6 ++ [t197]) x123_5 (wrap64 ((l0.length : Int) / a1)) x123_5 a4 (wrap64 (x127_6 + 1)) a2_0 a2_1 a5_0 a5_1 a7_0 a7_1) else (none)))) else (none)) else (none))) else (none)) else (none)) else (none)) else (none)) else (none)) else (none)) = some r := by first | (rw [hji55] at H; exact H) | (simp only [hji55] at H ⊢; exact H)
      have hji55w : (IntKind.i64.wrap (x123_5 * a1)) = ji55 := (i64_w _).trans hji55
      by_cases c56 : 0 ≤ (ji55)
      rotate_left
      · rw [if_neg c56] at H
        exact absurd H (by simp)
      rw [if_pos c56] at H
      have c56b0 := eq_true c56
      have c56b1 : decide (0 ≤ (ji55)) = true := decide_eq_true c56
      clear c56
      by_cases c57 : (ji55) ≤ (wrap64 ((wrap64 (x123_5 + 1)) * a1))
      rotate_left
      · rw [if_neg c57] at H
        exact absurd H (by simp)
      rw [if_pos c57] at H
      have c57b0 := eq_true c57
      have c57b1 : decide ((ji55) ≤ (wrap64 ((wrap64 (x123_5 + 1)) * a1))) = true := decide_eq_true c57
      by_cases c58 : (wrap64 ((wrap64 (x123_5 + 1)) * a1)) ≤ (l0.length : Int)
      rotate_left
      · rw [if_neg c58] at H
        exact absurd H (by simp)
      rw [if_pos c58] at H
      have c58b0 := eq_true c58
      have c58b1 : decide ((wrap64 ((wrap64 (x123_5 + 1)) * a1)) ≤ (l0.length : Int)) = true := decide_eq_true c58
      obtain ⟨y184, hy184⟩ : ∃ y_ : List Int, y_ = ((l0.take ((wrap64 ((wrap64 (x123_5 + 1)) * a1)) : Int).toNat).drop ((ji55) : Int).toNat) := ⟨_, rfl⟩
      replace H : (if 0 ≤ (wrap64 (x127_6 * a1)) then (if (wrap64 (x127_6 * a1)) ≤ (wrap64 ((wrap64 (x127_6 + 1)) * a1)) then (if (wrap64 ((wrap64 (x127_6 + 1)) * a1)) ≤ (l3.length : Int) then ((impl_DotBytes.f k6 a2_0 a2_1 a5_0 a5_1 y184 ((l3.take ((wrap64 ((wrap64 (x127_6 + 1)) * a1)) : Int).toNat).drop ((wrap64 (x127_6 * a1)) : Int).toNat)).bind fun t194 => (if 0 ≤ x127_6 then (if x127_6 < (l6.length : Int) then ((impl_bring_int.f (wrap64 (t194 + (rd l6 x127_6))) (-1073741824) 1073741824).bind fun t196 => ((impl_Requant.f k6 t196 t168 t169 a7_0 a7_1).bind fun t197 => (if x27_6.length < 17592186044416 then (impl_MatBytes.l4 k6 l0 a1 l3 a4 l6 t168 t169 (x27_6 ++ [t197]) x123_5 (wrap64 ((l0.length : Int) / a1)) x123_5 a4 (wrap64 (x127_6 + 1)) a2_0 a2_1 a5_0 a5_1 a7_0 a7_1) else (none)))) else (none)) else (none))) else (none)) else (none)) else (none)) = some r := by first | (rw [hy184]; with_reducible exact H) | (have H2_ := (Option.bind_some _ _).symm.trans H; rw [hy184]; with_reducible exact H2_) | (have H2_ := (Option.bind_some _ _).symm.trans H; with_reducible exact H2_) | with_reducible exact H | (rw [hy184]; exact H) | exact H
      have Ny184 := zK hy184
      clear hy184
      obtain ⟨ji59, hji59⟩ : ∃ j_ : Int, (wrap64 (x127_6 * a1)) = j_ := ⟨_, rfl⟩
      replace H : (if 0 ≤ (ji59) then (if (ji59) ≤ (wrap64 ((wrap64 (x127_6 + 1)) * a1)) then (if (wrap64 ((wrap64 (x127_6 + 1)) * a1)) ≤ (l3.length : Int) then ((impl_DotBytes.f k6 a2_0 a2_1 a5_0 a5_1 y184 ((l3.take ((wrap64 ((wrap64 (x127_6 + 1)) * a1)) : Int).toNat).drop ((ji59) : Int).toNat)).bind fun t194 => (if 0 ≤ x127_6 then (if x127_6 < (l6.length : Int) then ((impl_bring_int.f (wrap64 (t194 + (rd l6 x127_6))) (-1073741824) 1073741824).bind fun t196 => ((impl_Requant.f k6 t196 t168 t169 a7_0 a7_1).bind fun t197 => (if x27_6.length < 17592186044416 then (impl_MatBytes.l4 k6 l0 a1 l3 a4 l6 t168 t169 (x27_6 ++ [t197]) x123_5 (wrap64 ((l0.length : Int) / a1)) x123_5 a4 (wrap64 (x127_6 + 1)) a2_0 a2_1 a5_0 a5_1 a7_0 a7_1) else (none)))) else (none)) else (none))) else (none)) else (none)) else (none)) = some r := by first | (rw [hji59] at H; exact H) | (simp only [hji59] at H ⊢; exact H)
      have hji59w : (IntKind.i64.wrap (x127_6 * a1)) = ji59 := (i64_w _).trans hji59
      by_cases c60 : 0 ≤ (ji59)
      rotate_left
      · rw [if_neg c60] at H
        exact absurd H (by simp)
      rw [if_pos c60] at H
      have c60b0 := eq_true c60
      have c60b1 : decide (0 ≤ (ji59)) = true := decide_eq_true c60
      clear c60
      by_cases c61 : (ji59) ≤ (wrap64 ((wrap64 (x127_6 + 1)) * a1))
      rotate_left
      · rw [if_neg c61] at H
        exact absurd H (by simp)
      rw [if_pos c61] at H
      have c61b0 := eq_true c61
      have c61b1 : decide ((ji59) ≤ (wrap64 ((wrap64 (x127_6 + 1)) * a1))) = true := decide_eq_true c61
      by_cases c62 : (wrap64 ((wrap64 (x127_6 + 1)) * a1)) ≤ (l3.length : Int)
      rotate_left
      · rw [if_neg c62] at H
        exact absurd H (by simp)
      rw [if_pos c62] at H
      have c62b0 := eq_true c62
      have c62b1 : decide ((wrap64 ((wrap64 (x127_6 + 1)) * a1)) ≤ (l3.length : Int)) = true := decide_eq_true c62
      obtain ⟨y189, hy189⟩ : ∃ y_ : List Int, y_ = ((l3.take ((wrap64 ((wrap64 (x127_6 + 1)) * a1)) : Int).toNat).drop ((ji59) : Int).toNat) := ⟨_, rfl⟩
      replace H : ((impl_DotBytes.f k6 a2_0 a2_1 a5_0 a5_1 y184 y189).bind fun t194 => (if 0 ≤ x127_6 then (if x127_6 < (l6.length : Int) then ((impl_bring_int.f (wrap64 (t194 + (rd l6 x127_6))) (-1073741824) 1073741824).bind fun t196 => ((impl_Requant.f k6 t196 t168 t169 a7_0 a7_1).bind fun t197 => (if x27_6.length < 17592186044416 then (impl_MatBytes.l4 k6 l0 a1 l3 a4 l6 t168 t169 (x27_6 ++ [t197]) x123_5 (wrap64 ((l0.length : Int) / a1)) x123_5 a4 (wrap64 (x127_6 + 1)) a2_0 a2_1 a5_0 a5_1 a7_0 a7_1) else (none)))) else (none)) else (none))) = some r := by first | (rw [hy189]; with_reducible exact H) | (have H2_ := (Option.bind_some _ _).symm.trans H; rw [hy189]; with_reducible exact H2_) | (have H2_ := (Option.bind_some _ _).symm.trans H; with_reducible exact H2_) | with_reducible exact H | (rw [hy189]; exact H) | exact H
      have Ny189 := zK hy189
      clear hy189
      replace H := Option.bind_eq_some_iff.mp H
      obtain ⟨t194, A630, H⟩ := H
      replace H : (if 0 ≤ x127_6 then (if x127_6 < (l6.length : Int) then ((impl_bring_int.f (wrap64 (t194 + (rd l6 x127_6))) (-1073741824) 1073741824).bind fun t196 => ((impl_Requant.f k6 t196 t168 t169 a7_0 a7_1).bind fun t197 => (if x27_6.length < 17592186044416 then (impl_MatBytes.l4 k6 l0 a1 l3 a4 l6 t168 t169 (x27_6 ++ [t197]) x123_5 (wrap64 ((l0.length : Int) / a1)) x123_5 a4 (wrap64 (x127_6 + 1)) a2_0 a2_1 a5_0 a5_1 a7_0 a7_1) else (none)))) else (none)) else (none)) = some r := H
      have A63 := zK A630
      clear A630
      by_cases c64 : 0 ≤ x127_6
      rotate_left
      · rw [if_neg c64] at H
        exact absurd H (by simp)
      rw [if_pos c64] at H
      have c64b0 : decide (0 ≤ x127_6) = true := decide_eq_true c64
      clear c64
      by_cases c65 : x127_6 < (l6.length : Int)
      rotate_left
      · rw [if_neg c65] at H
        exact absurd H (by simp)
      rw [if_pos c65] at H
      have c65b0 : decide (x127_6 < (l6.length : Int)) = true := decide_eq_true c65
      clear c65
      replace H := Option.bind_eq_some_iff.mp H
      obtain ⟨t196, A660, H⟩ := H
      replace H : ((impl_Requant.f k6 t196 t168 t169 a7_0 a7_1).bind fun t197 => (if x27_6.length < 17592186044416 then (impl_MatBytes.l4 k6 l0 a1 l3 a4 l6 t168 t169 (x27_6 ++ [t197]) x123_5 (wrap64 ((l0.length : Int) / a1)) x123_5 a4 (wrap64 (x127_6 + 1)) a2_0 a2_1 a5_0 a5_1 a7_0 a7_1) else (none))) = some r := H
      have A66 := zK A660
      clear A660
      replace H := Option.bind_eq_some_iff.mp H
      obtain ⟨t197, A670, H⟩ := H
      replace H : (if x27_6.length < 17592186044416 then (impl_MatBytes.l4 k6 l0 a1 l3 a4 l6 t168 t169 (x27_6 ++ [t197]) x123_5 (wrap64 ((l0.length : Int) / a1)) x123_5 a4 (wrap64 (x127_6 + 1)) a2_0 a2_1 a5_0 a5_1 a7_0 a7_1) else (none)) = some r := H
      have A67 := zK A670
      clear A670
      by_cases c68 : x27_6.length < 17592186044416
      rotate_left
      · rw [if_neg c68] at H
        exact absurd H (by simp)
      rw [if_pos c68] at H
      have LMc68 := zK c68
      clear c68
      obtain ⟨y198, hy198⟩ : ∃ y_ : List Int, y_ = (x27_6 ++ [t197]) := ⟨_, rfl⟩
      replace H : (impl_MatBytes.l4 k6 l0 a1 l3 a4 l6 t168 t169 y198 x123_5 (wrap64 ((l0.length : Int) / a1)) x123_5 a4 (wrap64 (x127_6 + 1)) a2_0 a2_1 a5_0 a5_1 a7_0 a7_1) = some r := by first | (rw [hy198]; with_reducible exact H) | (have H2_ := (Option.bind_some _ _).symm.trans H; rw [hy198]; with_reducible exact H2_) | (have H2_ := (Option.bind_some _ _).symm.trans H; with_reducible exact H2_) | with_reducible exact H | (rw [hy198]; exact H) | exact H
      have Ny198 := zK hy198
      clear hy198
      have H' := zK H
      clear H
      try go_wp2
      have n0_ := zK (Kd.V_drew HO_0.out)
      have n1_ := zK (Kd.V_drew HO_3.out)
      have n2_ := zK (Kd.R_drew HO_27.out)
      have n3_ := zK (zd BK165.out)
      have n4_ := zK (zd BK166.out)
      have n5_ := zK (zd BK167.out)
      have n6_ := zK (ze HB.out)
      clear HO_0
      clear HO_3
      clear HO_27
      clear BK165
      clear BK166
      clear BK167
      clear HB
      have HO_0 := n0_
      have HO_3 := n1_
      have HO_27 := n2_
      have BK165 := n3_
      have BK166 := n4_
      have BK167 := n5_
      have HB := n6_
      clear n0_ n1_ n2_ n3_ n4_ n5_ n6_
      have q70 : ((wrap64 ((wrap64 (x123_5 + 1)) * a1)) : Int) ≤ ((l0.length : Int) : Int) := of_decide_eq_true zA
      obtain ⟨i070, hi070, _, hsz70, _⟩ := info_parts info3
      have hroom70 : l0.length ≤ c0 := (Kd.V_reads' HO_0.out).2.1
      have hC70 : Kd.F (Kd.int .i64) _ _ A0 l0.length l0 := (Kd.V_at (base := w.heap.size) HO_0.out).2.2
      have ql70 : ((ji55) : Int) ≤ ((wrap64 ((wrap64 (x123_5 + 1)) * a1)) : Int) := of_decide_eq_true zA
      have q070 : (0 : Int) ≤ ((ji55) : Int) := of_decide_eq_true zA
      have hcut70 := cut_mid (P := Try.prog) 22 3 .i64 .i64 Try.underlying22 hi070 1 hsz70 A0 l0.length c0 (ji55) (wrap64 ((wrap64 (x123_5 + 1)) * a1)) q070 ql70 q70 hroom70
      have hr70 := Kd.F_mid (lo := ((ji55) : Int).toNat) (hi := ((wrap64 ((wrap64 (x123_5 + 1)) * a1)) : Int).toNat) (c := c0) hC70 (by omega) (by omega) hroom70
      obtain ⟨A70, hA70⟩ : ∃ A1, A1 = (if c0 = ((ji55) : Int).toNat then A0 else (A0 : Option Addr).map (·.add (((ji55) : Int).toNat * 1))) := ⟨_, rfl⟩
      obtain ⟨c70, hc70⟩ : ∃ c1, c1 = c0 - ((ji55) : Int).toNat := ⟨_, rfl⟩
      have hy70 : y184.length = ((wrap64 ((wrap64 (x123_5 + 1)) * a1)) : Int).toNat - ((ji55) : Int).toNat := (by rw [Ny184.out, List.length_drop, List.length_take] <;> omega)
      rw [show ((l0).take ((wrap64 ((wrap64 (x123_5 + 1)) * a1)) : Int).toNat).drop ((ji55) : Int).toNat = y184 from Ny184.out.symm] at hr70
      replace hr70 : Kd.F (Kd.int .i64) _ _ A70 y184.length y184 := (by rw [hA70]; exact hr70)
      rw [← hy70, ← hA70, ← hc70] at hcut70
      have HO188 := zK (show Kd.V (Kd.int .i64) 3 _ w.heap.size _ (.slice A70 y184.length c70) y184 from Kd.V_mk (by rw [hy70, hc70]; exact Nat.sub_le_sub_right (Nat.le_trans (by omega) hroom70) _) hr70)
      have HC188 := zK (show y184.length ≤ c70 from by rw [hy70, hc70]; exact Nat.sub_le_sub_right (Nat.le_trans (by omega) hroom70) _)
      clear hr70 hC70 hroom70 hi070 hsz70 hc70
      have KY70 := zK hy70
      have KA70 := zK hA70
      clear hy70 hA70
      replace q70 := eq_true q70
      have q71 : ((wrap64 ((wrap64 (x127_6 + 1)) * a1)) : Int) ≤ ((l3.length : Int) : Int) := of_decide_eq_true zA
      obtain ⟨i071, hi071, _, hsz71, _⟩ := info_parts info3
      have hroom71 : l3.length ≤ c3 := (Kd.V_reads' HO_3.out).2.1
      have hC71 : Kd.F (Kd.int .i64) _ _ A3 l3.length l3 := (Kd.V_at (base := w.heap.size) HO_3.out).2.2
      have ql71 : ((ji59) : Int) ≤ ((wrap64 ((wrap64 (x127_6 + 1)) * a1)) : Int) := of_decide_eq_true zA
      have q071 : (0 : Int) ≤ ((ji59) : Int) := of_decide_eq_true zA
      have hcut71 := cut_mid (P := Try.prog) 22 3 .i64 .i64 Try.underlying22 hi071 1 hsz71 A3 l3.length c3 (ji59) (wrap64 ((wrap64 (x127_6 + 1)) * a1)) q071 ql71 q71 hroom71
      have hr71 := Kd.F_mid (lo := ((ji59) : Int).toNat) (hi := ((wrap64 ((wrap64 (x127_6 + 1)) * a1)) : Int).toNat) (c := c3) hC71 (by omega) (by omega) hroom71
      obtain ⟨A71, hA71⟩ : ∃ A1, A1 = (if c3 = ((ji59) : Int).toNat then A3 else (A3 : Option Addr).map (·.add (((ji59) : Int).toNat * 1))) := ⟨_, rfl⟩
      obtain ⟨c71, hc71⟩ : ∃ c1, c1 = c3 - ((ji59) : Int).toNat := ⟨_, rfl⟩
      have hy71 : y189.length = ((wrap64 ((wrap64 (x127_6 + 1)) * a1)) : Int).toNat - ((ji59) : Int).toNat := (by rw [Ny189.out, List.length_drop, List.length_take] <;> omega)
      rw [show ((l3).take ((wrap64 ((wrap64 (x127_6 + 1)) * a1)) : Int).toNat).drop ((ji59) : Int).toNat = y189 from Ny189.out.symm] at hr71
      replace hr71 : Kd.F (Kd.int .i64) _ _ A71 y189.length y189 := (by rw [hA71]; exact hr71)
      rw [← hy71, ← hA71, ← hc71] at hcut71
      have HO193 := zK (show Kd.V (Kd.int .i64) 3 _ w.heap.size _ (.slice A71 y189.length c71) y189 from Kd.V_mk (by rw [hy71, hc71]; exact Nat.sub_le_sub_right (Nat.le_trans (by omega) hroom71) _) hr71)
      have HC193 := zK (show y189.length ≤ c71 from by rw [hy71, hc71]; exact Nat.sub_le_sub_right (Nat.le_trans (by omega) hroom71) _)
      clear hr71 hC71 hroom71 hi071 hsz71 hc71
      have KY71 := zK hy71
      have KA71 := zK hA71
      clear hy71 hA71
      replace q71 := eq_true q71
      have p195 : 0 ≤ (x127_6 : Int) := of_decide_eq_true zA
      have q195 : x127_6 < (l6.length : Int) := of_decide_eq_true zA
      obtain ⟨ad195, e195, hx195_0⟩ := Kd.at_int HR6.out x127_6 p195 q195
      have hw195_0 := hx195_0
      cases e195
      (try replace hx195_0 := (HB.out.cell (World.block_lt_of_cell? w _ hx195_0)).trans hx195_0)
      replace p195 := eq_true p195
      replace q195 := eq_true q195
      refine start_ (n := 27) (S := fun w' => w'.cell? ⟨gb165, 0, none⟩ = some (.int .i64 a2_0) ∧ w'.cell? ⟨gb165, 1, none⟩ = some (.int .i64 a2_1) ∧ w'.cell? ⟨gb166, 0, none⟩ = some (.int .i64 a5_0) ∧ w'.cell? ⟨gb166, 1, none⟩ = some (.int .i64 a5_1) ∧ w'.cell? (ad195.add (x127_6).toNat) = some (.int .i64 (rd l6 x127_6))) (ds := []) #[false, false, false, false, false, false, false, false, false, false, false, false, false, false, false, false, false, false, false, false, false, false, false, false, false, false, false] (by kernel_rfl) rfl rfl ⟨(zc BK165.out 0).trans rfl, (zc BK165.out 1).trans rfl, (zc BK166.out 0).trans rfl, (zc BK166.out 1).trans rfl, ((HB.out.cell (World.block_lt_of_cell? w _ hw195_0)).trans hw195_0)⟩ (fun hHeld => ?_); refine with_tabW impl_MatBytes.tab30 impl_MatBytes.bits30 (fun HT_ HW_ => ?_)
      generalize wr.drew = w69 at HO_0 HO_3 HO_27 BK165 BK166 BK167 HB HO188 HO193 hx195_0 hHeld ⊢
      refine pure_ (i := 2) (N := some 132) (v := ?_) (a' := ?_) #[false, false, true, false, false, false, false, false, false, false, false, false, false, false, false, false, false, false, false, false, false, false, false, false, false, false, false] rfl rfl (any_of HT_.out (by kernel_rfl)) (fun _ _ _ h => h) (Or.inl ⟨by rfl, ?_⟩) ?_ ?_
      rotate_left
      · intro w'
        go_simp
        with_reducible rfl
      rotate_left
      · simp only [Act.put, List.setIfInBounds_toArray, List.set_cons_zero, List.set_cons_succ, i64_w, i32_w]
        rfl
      refine pure_ (i := 3) (N := some 133) (v := ?_) (a' := ?_) #[false, false, true, true, false, false, false, false, false, false, false, false, false, false, false, false, false, false, false, false, false, false, false, false, false, false, false] rfl rfl (any_of HT_.out (by kernel_rfl)) (fun _ _ _ h => h) (Or.inl ⟨by rfl, ?_⟩) ?_ ?_
      rotate_left
      · intro w'
        go_simp
        with_reducible rfl
      rotate_left
      · simp only [Act.put, List.setIfInBounds_toArray, List.set_cons_zero, List.set_cons_succ, i64_w, i32_w]
        rfl
      refine pure_ (i := 4) (N := some 134) (v := ?_) (a' := ?_) #[false, false, true, true, true, false, false, false, false, false, false, false, false, false, false, false, false, false, false, false, false, false, false, false, false, false, false] rfl rfl (any_of HT_.out (by kernel_rfl)) (fun _ _ _ h => h) (Or.inl ⟨by rfl, ?_⟩) ?_ ?_
      rotate_left
      · intro w'
        go_simp
        with_reducible rfl
      rotate_left
      · simp only [Act.put, List.setIfInBounds_toArray, List.set_cons_zero, List.set_cons_succ, i64_w, i32_w]
        rfl
      refine pure_ (i := 5) (N := some 135) (v := ?_) (a' := ?_) #[false, false, true, true, true, true, false, false, false, false, false, false, false, false, false, false, false, false, false, false, false, false, false, false, false, false, false] rfl rfl (any_of HT_.out (by kernel_rfl)) (fun _ _ _ h => h) (Or.inl ⟨by rfl, ?_⟩) ?_ ?_
      rotate_left
      · intro w'
        go_simp
        with_reducible rfl
      rotate_left
      · simp only [Act.put, List.setIfInBounds_toArray, List.set_cons_zero, List.set_cons_succ, i64_w, i32_w]
        rfl
      refine pure_ (i := 6) (N := some 136) (v := ?_) (a' := ?_) #[false, false, true, true, true, true, true, false, false, false, false, false, false, false, false, false, false, false, false, false, false, false, false, false, false, false, false] rfl rfl (any_of HT_.out (by kernel_rfl)) (fun _ _ _ h => h) (Or.inl ⟨by rfl, ?_⟩) ?_ ?_
      rotate_left
      · intro w'
        go_simp
        with_reducible rfl
      rotate_left
      · simp only [Act.put, List.setIfInBounds_toArray, List.set_cons_zero, List.set_cons_succ, i64_w, i32_w]
        rfl
      refine pure_ (i := 7) (N := some 137) (v := ?_) (a' := ?_) #[false, false, true, true, true, true, true, true, false, false, false, false, false, false, false, false, false, false, false, false, false, false, false, false, false, false, false] rfl rfl (any_of HT_.out (by kernel_rfl)) (fun _ _ _ h => h) (Or.inl ⟨by rfl, ?_⟩) ?_ ?_
      rotate_left
      · intro w'
        go_simp
        with_reducible rfl
      rotate_left
      · simp only [Act.put, List.setIfInBounds_toArray, List.set_cons_zero, List.set_cons_succ, i64_w, i32_w]
        rfl
      refine pure_ (i := 8) (N := some 138) (v := ?_) (a' := ?_) #[false, false, true, true, true, true, true, true, true, false, false, false, false, false, false, false, false, false, false, false, false, false, false, false, false, false, false] rfl rfl (any_of HT_.out (by kernel_rfl)) (fun _ _ _ h => h) (Or.inl ⟨by rfl, ?_⟩) ?_ ?_
      rotate_left
      · intro w'
        go_simp
        with_reducible rfl
      rotate_left
      · simp only [Act.put, List.setIfInBounds_toArray, List.set_cons_zero, List.set_cons_succ, i64_w, i32_w]
        rfl
      refine pure_ (i := 9) (N := some 139) (v := ?_) (a' := ?_) #[false, false, true, true, true, true, true, true, true, true, false, false, false, false, false, false, false, false, false, false, false, false, false, false, false, false, false] rfl rfl (any_of HT_.out (by kernel_rfl)) (fun _ _ _ h => h) (Or.inl ⟨by rfl, ?_⟩) ?_ ?_
      rotate_left
      · intro w'
        go_simp
        with_reducible rfl
      rotate_left
      · simp only [Act.put, List.setIfInBounds_toArray, List.set_cons_zero, List.set_cons_succ, i64_w, i32_w]
        rfl
      refine pure_ (i := 10) (N := some 140) (v := ?_) (a' := ?_) #[false, false, true, true, true, true, true, true, true, true, true, false, false, false, false, false, false, false, false, false, false, false, false, false, false, false, false] rfl rfl (any_of HT_.out (by kernel_rfl)) (fun _ _ _ h => h) (Or.inl ⟨by rfl, ?_⟩) ?_ ?_
      rotate_left
      · intro w'
        go_simp
        with_reducible rfl
      rotate_left
      · simp only [Act.put, List.setIfInBounds_toArray, List.set_cons_zero, List.set_cons_succ, i64_w, i32_w]
        rfl
      refine pure_ (i := 11) (N := some 141) (v := ?_) (a' := ?_) #[false, false, true, true, true, true, true, true, true, true, true, true, false, false, false, false, false, false, false, false, false, false, false, false, false, false, false] rfl rfl (any_of HT_.out (by kernel_rfl)) (fun _ _ _ h => h) (Or.inl ⟨by rfl, ?_⟩) ?_ ?_
      rotate_left
      · intro w'
        go_simp
        with_reducible rfl
      rotate_left
      · simp only [Act.put, List.setIfInBounds_toArray, List.set_cons_zero, List.set_cons_succ, i64_w, i32_w]
        rfl
      refine pure_ (i := 12) (N := some 142) (v := ?_) (a' := ?_) #[false, false, true, true, true, true, true, true, true, true, true, true, true, false, false, false, false, false, false, false, false, false, false, false, false, false, false] rfl rfl (any_of HT_.out (by kernel_rfl)) (fun _ _ _ h => h) (Or.inl ⟨by rfl, ?_⟩) ?_ ?_
      rotate_left
      · intro w'
        go_simp
        with_reducible rfl
      rotate_left
      · simp only [Act.put, List.setIfInBounds_toArray, List.set_cons_zero, List.set_cons_succ, i64_w, i32_w]
        rfl
      refine pure_ (i := 13) (N := some 143) (v := ?_) (a' := ?_) #[false, false, true, true, true, true, true, true, true, true, true, true, true, true, false, false, false, false, false, false, false, false, false, false, false, false, false] rfl rfl (any_of HT_.out (by kernel_rfl)) (fun _ _ _ h => h) (Or.inl ⟨by rfl, ?_⟩) ?_ ?_
      rotate_left
      · intro w'
        go_simp
        with_reducible rfl
      rotate_left
      · simp only [Act.put, List.setIfInBounds_toArray, List.set_cons_zero, List.set_cons_succ, i64_w, i32_w]
        rfl
      refine pure_ (i := 14) (N := some 144) (v := ?_) (a' := ?_) #[false, false, true, true, true, true, true, true, true, true, true, true, true, true, true, false, false, false, false, false, false, false, false, false, false, false, false] rfl rfl (any_of HT_.out (by kernel_rfl)) (fun _ _ _ h => h) (Or.inl ⟨by rfl, ?_⟩) ?_ ?_
      rotate_left
      · intro w'
        go_simp
        with_reducible rfl
      rotate_left
      · simp only [Act.put, List.setIfInBounds_toArray, List.set_cons_zero, List.set_cons_succ, i64_w, i32_w]
        rfl
      refine pure_ (i := 15) (N := some 145) (v := ?_) (a' := ?_) #[false, false, true, true, true, true, true, true, true, true, true, true, true, true, true, true, false, false, false, false, false, false, false, false, false, false, false] rfl rfl (any_of HT_.out (by kernel_rfl)) (fun _ _ _ h => h) (Or.inl ⟨by rfl, ?_⟩) ?_ ?_
      rotate_left
      · intro w'
        go_simp
        with_reducible rfl
      rotate_left
      · simp only [Act.put, List.setIfInBounds_toArray, List.set_cons_zero, List.set_cons_succ, i64_w, i32_w]
        rfl
      refine pure_ (i := 16) (N := some 146) (v := ?_) (a' := ?_) #[false, false, true, true, true, true, true, true, true, true, true, true, true, true, true, true, true, false, false, false, false, false, false, false, false, false, false] rfl rfl (any_of HT_.out (by kernel_rfl)) (fun _ _ _ h => h) (Or.inl ⟨by rfl, ?_⟩) ?_ ?_
      rotate_left
      · intro w'
        go_simp
        with_reducible rfl
      rotate_left
      · simp only [Act.put, List.setIfInBounds_toArray, List.set_cons_zero, List.set_cons_succ, i64_w, i32_w]
        rfl
      refine pure_ (i := 17) (N := some 147) (v := ?_) (a' := ?_) #[false, false, true, true, true, true, true, true, true, true, true, true, true, true, true, true, true, true, false, false, false, false, false, false, false, false, false] rfl rfl (any_of HT_.out (by kernel_rfl)) (fun _ _ _ h => h) (Or.inl ⟨by rfl, ?_⟩) ?_ ?_
      rotate_left
      · intro w'
        go_simp
        with_reducible rfl
      rotate_left
      · simp only [Act.put, List.setIfInBounds_toArray, List.set_cons_zero, List.set_cons_succ, i64_w, i32_w]
        rfl
      refine pure_ (i := 18) (N := some 148) (v := ?_) (a' := ?_) #[false, false, true, true, true, true, true, true, true, true, true, true, true, true, true, true, true, true, true, false, false, false, false, false, false, false, false] rfl rfl (any_of HT_.out (by kernel_rfl)) (fun _ _ _ h => h) (Or.inl ⟨by rfl, ?_⟩) ?_ ?_
      rotate_left
      · intro w'
        go_simp
        with_reducible rfl
      rotate_left
      · simp only [Act.put, List.setIfInBounds_toArray, List.set_cons_zero, List.set_cons_succ, i64_w, i32_w]
        rfl
      refine pure_ (i := 19) (N := some 149) (v := ?_) (a' := ?_) #[false, false, true, true, true, true, true, true, true, true, true, true, true, true, true, true, true, true, true, true, false, false, false, false, false, false, false] rfl rfl (any_of HT_.out (by kernel_rfl)) (fun _ _ _ h => h) (Or.inl ⟨by rfl, ?_⟩) ?_ ?_
      rotate_left
      · intro w'
        go_simp
        with_reducible rfl
      rotate_left
      · simp only [Act.put, List.setIfInBounds_toArray, List.set_cons_zero, List.set_cons_succ, i64_w, i32_w]
        rfl
      refine pure_ (i := 21) (N := some 151) (v := ?_) (a' := ?_) #[false, false, true, true, true, true, true, true, true, true, true, true, true, true, true, true, true, true, true, true, false, true, false, false, false, false, false] rfl rfl (any_of HT_.out (by kernel_rfl)) (fun _ _ _ h => h) (Or.inl ⟨by rfl, ?_⟩) ?_ ?_
      rotate_left
      · intro w'
        go_simp
        with_reducible rfl
      rotate_left
      · simp only [Act.put, List.setIfInBounds_toArray, List.set_cons_zero, List.set_cons_succ, i64_w, i32_w]
        rfl
      refine pure_ (i := 22) (N := some 152) (v := ?_) (a' := ?_) #[false, false, true, true, true, true, true, true, true, true, true, true, true, true, true, true, true, true, true, true, false, true, true, false, false, false, false] rfl rfl (any_of HT_.out (by kernel_rfl)) (fun _ _ _ h => h) (Or.inl ⟨by rfl, ?_⟩) ?_ ?_
      rotate_left
      · intro w'
        go_simp
        with_reducible rfl
      rotate_left
      · simp only [Act.put, List.setIfInBounds_toArray, List.set_cons_zero, List.set_cons_succ, i64_w, i32_w]
        rfl
      refine pure_ (i := 23) (N := some 153) (v := ?_) (a' := ?_) #[false, false, true, true, true, true, true, true, true, true, true, true, true, true, true, true, true, true, true, true, false, true, true, true, false, false, false] rfl rfl (any_of HT_.out (by kernel_rfl)) (fun _ _ _ h => h) (Or.inl ⟨by rfl, ?_⟩) ?_ ?_
      rotate_left
      · intro w'
        go_simp
        with_reducible rfl
      rotate_left
      · simp only [Act.put, List.setIfInBounds_toArray, List.set_cons_zero, List.set_cons_succ, i64_w, i32_w]
        rfl
      refine take_ (i := 0) (N := some 130) (v := ?_) (a' := ?_) #[true, false, true, true, true, true, true, true, true, true, true, true, true, true, true, true, true, true, true, true, false, true, true, true, false, false, false] rfl rfl (take_ofW HT_.out HW_.out (by kernel_rfl)) (fun _ _ _ h => h) (Or.inl ⟨by rfl, ?_⟩) hHeld ?_ ?_
      rotate_left
      · rintro w' ⟨s0, s1, s2, s3, s4⟩
        go_simp
        with_reducible rfl
      rotate_left
      · simp only [Act.put, List.setIfInBounds_toArray, List.set_cons_zero, List.set_cons_succ, i64_w, i32_w]
        rfl
      refine take_ (i := 1) (N := some 131) (v := ?_) (a' := ?_) #[true, true, true, true, true, true, true, true, true, true, true, true, true, true, true, true, true, true, true, true, false, true, true, true, false, false, false] rfl rfl (take_ofW HT_.out HW_.out (by kernel_rfl)) (fun _ _ _ h => h) (Or.inl ⟨by rfl, ?_⟩) hHeld ?_ ?_
      rotate_left
      · rintro w' ⟨s0, s1, s2, s3, s4⟩
        go_simp
        with_reducible rfl
      rotate_left
      · simp only [Act.put, List.setIfInBounds_toArray, List.set_cons_zero, List.set_cons_succ, i64_w, i32_w]
        rfl
      refine take_ (i := 24) (N := some 154) (v := ?_) (a' := ?_) #[true, true, true, true, true, true, true, true, true, true, true, true, true, true, true, true, true, true, true, true, false, true, true, true, true, false, false] rfl rfl (take_ofW HT_.out HW_.out (by kernel_rfl)) (fun _ _ _ h => h) (Or.inl ⟨by rfl, ?_⟩) hHeld ?_ ?_
      rotate_left
      · rintro w' ⟨s0, s1, s2, s3, s4⟩
        go_simp
        with_reducible rfl
      rotate_left
      · simp only [Act.put, List.setIfInBounds_toArray, List.set_cons_zero, List.set_cons_succ, i64_w, i32_w]
        rfl
      refine one_ (i := 20) (N := some 150) #[true, true, true, true, true, true, true, true, true, true, true, true, true, true, true, true, true, true, true, true, true, true, true, true, true, false, false] rfl rfl (one_of HT_.out (by kernel_rfl)) (by decide) (fun K hK => ?_)
      refine goes_ Try.func67 (by kernel_rfl) rfl #[.agg #[.int .i64 a2_0, .int .i64 a2_1], .agg #[.int .i64 a5_0, .int .i64 a5_1], .slice A70 y184.length c70, .slice A71 y189.length c71] (by rfl) rfl rfl zL ?_
      with_reducible refine (impl_DotBytes.calls k6 a2_0 a2_1 a5_0 a5_1 _ _ y184 _ _ y189 t194 _ ?side1 ?side2 ?side3 ?side4 A63.out).mono ?_
      (case side1 => repeat (first | exact (Kd.V_reads' HO188.out).2.2 | (with_reducible refine Kd.C_alloc ?_ _) | (with_reducible refine Kd.C_drewN ?_ _) | (with_reducible refine Kd.C_drew ?_)))
      (case side2 => exact (Kd.V_reads' HO188.out).2.1)
      (case side3 => repeat (first | exact (Kd.V_reads' HO193.out).2.2 | (with_reducible refine Kd.C_alloc ?_ _) | (with_reducible refine Kd.C_drewN ?_ _) | (with_reducible refine Kd.C_drew ?_)))
      (case side4 => exact (Kd.V_reads' HO193.out).2.1)
      rintro e w72 ⟨rfl, hb⟩
      refine ⟨_, rfl, ?_⟩
      have n0_ := zK (Kd.V_below (by (with_reducible repeat (first | apply Kd.V_alloc | apply Kd.V_drewN | apply Kd.V_drew)); exact HO_0.out) hb)
      have n1_ := zK (Kd.V_below (by (with_reducible repeat (first | apply Kd.V_alloc | apply Kd.V_drewN | apply Kd.V_drew)); exact HO_3.out) hb)
      have n2_ := zK (Kd.R_below (by (with_reducible repeat (first | apply Kd.R_alloc | apply Kd.R_drewN | apply Kd.R_drew)); exact HO_27.out) hb)
      have n3_ := zK (Kd.V_below (by (with_reducible repeat (first | apply Kd.V_alloc | apply Kd.V_drewN | apply Kd.V_drew)); exact HO188.out) hb)
      have n4_ := zK (Kd.V_below (by (with_reducible repeat (first | apply Kd.V_alloc | apply Kd.V_drewN | apply Kd.V_drew)); exact HO193.out) hb)
      have n5_ := zK (zg (g := gb165) (o := .cells #[.int .i64 a2_0, .int .i64 a2_1] 45 (0, 0)) (by (with_reducible repeat (first | refine zn ?_ _ | refine zd ?_ | refine za ?_ _)); exact BK165.out) hb)
      have n6_ := zK (zg (g := gb166) (o := .cells #[.int .i64 a5_0, .int .i64 a5_1] 45 (0, 0)) (by (with_reducible repeat (first | refine zn ?_ _ | refine zd ?_ | refine za ?_ _)); exact BK166.out) hb)
      have n7_ := zK (zg (g := gb167) (o := .cells #[.int .i64 a7_0, .int .i64 a7_1] 45 (0, 0)) (by (with_reducible repeat (first | refine zn ?_ _ | refine zd ?_ | refine za ?_ _)); exact BK167.out) hb)
      have n8_ := zK (zp zB hb)
      clear HO_0
      clear HO_3
      clear HO_27
      clear HO188
      clear HO193
      clear BK165
      clear BK166
      clear BK167
      clear HB
      have HO_0 := n0_
      have HO_3 := n1_
      have HO_27 := n2_
      have HO188 := n3_
      have HO193 := n4_
      have BK165 := n5_
      have BK166 := n6_
      have BK167 := n7_
      have HB := n8_
      clear n0_ n1_ n2_ n3_ n4_ n5_ n6_ n7_ n8_
      (try clear hb)
      (try clear hb2)
      (try clear hk)
      (try clear hi)
      refine hK.out _ _ ⟨(zc BK165.out 0).trans rfl, (zc BK165.out 1).trans rfl, (zc BK166.out 0).trans rfl, (zc BK166.out 1).trans rfl, ((HB.out.cell (World.block_lt_of_cell? w _ hw195_0)).trans hw195_0)⟩ (fun hHeld => ?_)
      clear hK K
      refine norm_ (a' := ?_) ?_ ?_
      rotate_left
      · show Act.put _ (some 150) _ = _
        simp only [Act.put, List.setIfInBounds_toArray, List.set_cons_zero, List.set_cons_succ, i64_w, i32_w]
        rfl
      refine pure_ (i := 25) (N := some 155) (v := ?_) (a' := ?_) #[true, true, true, true, true, true, true, true, true, true, true, true, true, true, true, true, true, true, true, true, true, true, true, true, true, true, false] rfl rfl (any_of HT_.out (by kernel_rfl)) (fun _ _ _ h => h) (Or.inl ⟨by rfl, ?_⟩) ?_ ?_
      rotate_left
      · intro w'
        go_simp
        with_reducible rfl
      rotate_left
      · simp only [Act.put, List.setIfInBounds_toArray, List.set_cons_zero, List.set_cons_succ, i64_w, i32_w]
        rfl
      refine pure_ (i := 26) (N := some 30) (v := ?_) (a' := ?_) #[true, true, true, true, true, true, true, true, true, true, true, true, true, true, true, true, true, true, true, true, true, true, true, true, true, true, true] rfl rfl (any_of HT_.out (by kernel_rfl)) (fun _ _ _ h => h) (Or.inl ⟨by rfl, ?_⟩) ?_ ?_
      rotate_left
      · intro w'
        go_simp
        with_reducible rfl
      rotate_left
      · simp only [Act.put, List.setIfInBounds_toArray, List.set_cons_zero, List.set_cons_succ, i64_w, i32_w]
        rfl
      refine done_ (done_of HT_.out (by kernel_rfl)) ?_
      try go_wp2
      have n0_ := zK (Kd.V_drew HO_0.out)
      have n1_ := zK (Kd.V_drew HO_3.out)
      have n2_ := zK (Kd.R_drew HO_27.out)
      have n3_ := zK (Kd.V_drew HO188.out)
      have n4_ := zK (Kd.V_drew HO193.out)
      have n5_ := zK (zd BK165.out)
      have n6_ := zK (zd BK166.out)
      have n7_ := zK (zd BK167.out)
      have n8_ := zK (ze HB.out)
      clear HO_0
      clear HO_3
      clear HO_27
      clear HO188
      clear HO193
      clear BK165
      clear BK166
      clear BK167
      clear HB
      have HO_0 := n0_
      have HO_3 := n1_
      have HO_27 := n2_
      have HO188 := n3_
      have HO193 := n4_
      have BK165 := n5_
      have BK166 := n6_
      have BK167 := n7_
      have HB := n8_
      clear n0_ n1_ n2_ n3_ n4_ n5_ n6_ n7_ n8_
      refine start_ (n := 10) (S := fun w' => w'.cell? ⟨gb167, 0, none⟩ = some (.int .i64 a7_0) ∧ w'.cell? ⟨gb167, 1, none⟩ = some (.int .i64 a7_1)) (ds := []) #[false, false, false, false, false, false, false, false, false, false] (by kernel_rfl) rfl rfl ⟨(zc BK167.out 0).trans rfl, (zc BK167.out 1).trans rfl⟩ (fun hHeld => ?_); refine with_tabW impl_MatBytes.tab31 impl_MatBytes.bits31 (fun HT_ HW_ => ?_)
      generalize w72.drew = w73 at HO_0 HO_3 HO_27 HO188 HO193 BK165 BK166 BK167 HB hHeld ⊢
      refine pure_ (i := 0) (N := some 156) (v := ?_) (a' := ?_) #[true, false, false, false, false, false, false, false, false, false] rfl rfl (any_of HT_.out (by kernel_rfl)) (fun _ _ _ h => h) (Or.inl ⟨by rfl, ?_⟩) ?_ ?_
      rotate_left
      · intro w'
        go_simp
        with_reducible rfl
      rotate_left
      · simp only [Act.put, List.setIfInBounds_toArray, List.set_cons_zero, List.set_cons_succ, i64_w, i32_w]
        rfl
      refine pure_ (i := 1) (N := some 157) (v := ?_) (a' := ?_) #[true, true, false, false, false, false, false, false, false, false] rfl rfl (any_of HT_.out (by kernel_rfl)) (fun _ _ _ h => h) (Or.inl ⟨by rfl, ?_⟩) ?_ ?_
      rotate_left
      · intro w'
        go_simp
        with_reducible rfl
      rotate_left
      · simp only [Act.put, List.setIfInBounds_toArray, List.set_cons_zero, List.set_cons_succ, i64_w, i32_w]
        rfl
      refine pure_ (i := 3) (N := some 159) (v := ?_) (a' := ?_) #[true, true, false, true, false, false, false, false, false, false] rfl rfl (any_of HT_.out (by kernel_rfl)) (fun _ _ _ h => h) (Or.inl ⟨by rfl, ?_⟩) ?_ ?_
      rotate_left
      · intro w'
        go_simp
        with_reducible rfl
      rotate_left
      · simp only [Act.put, List.setIfInBounds_toArray, List.set_cons_zero, List.set_cons_succ, i64_w, i32_w]
        rfl
      refine pure_ (i := 4) (N := some 160) (v := ?_) (a' := ?_) #[true, true, false, true, true, false, false, false, false, false] rfl rfl (any_of HT_.out (by kernel_rfl)) (fun _ _ _ h => h) (Or.inl ⟨by rfl, ?_⟩) ?_ ?_
      rotate_left
      · intro w'
        go_simp
        with_reducible rfl
      rotate_left
      · simp only [Act.put, List.setIfInBounds_toArray, List.set_cons_zero, List.set_cons_succ, i64_w, i32_w]
        rfl
      refine take_ (i := 5) (N := some 161) (v := ?_) (a' := ?_) #[true, true, false, true, true, true, false, false, false, false] rfl rfl (take_ofW HT_.out HW_.out (by kernel_rfl)) (fun _ _ _ h => h) (Or.inl ⟨by rfl, ?_⟩) hHeld ?_ ?_
      rotate_left
      · rintro w' ⟨s0, s1⟩
        go_simp
        with_reducible rfl
      rotate_left
      · simp only [Act.put, List.setIfInBounds_toArray, List.set_cons_zero, List.set_cons_succ, i64_w, i32_w]
        rfl
      refine one_ (i := 2) (N := some 158) #[true, true, true, true, true, true, false, false, false, false] rfl rfl (one_of HT_.out (by kernel_rfl)) (by decide) (fun K hK => ?_)
      refine goes_ Try.func69 (by kernel_rfl) rfl #[.int .i64 (wrap64 (t194 + (rd l6 x127_6))), .int .i64 (-1073741824), .int .i64 1073741824] (by rfl) rfl rfl zL ?_
      with_reducible refine (impl_bring_int.calls (wrap64 (t194 + (rd l6 x127_6))) (-1073741824) 1073741824 t196 _ A66.out).mono ?_
      rintro e w74 ⟨rfl, hb⟩
      refine ⟨_, rfl, ?_⟩
      have n0_ := zK (Kd.V_below (by (with_reducible repeat (first | apply Kd.V_alloc | apply Kd.V_drewN | apply Kd.V_drew)); exact HO_0.out) hb)
      have n1_ := zK (Kd.V_below (by (with_reducible repeat (first | apply Kd.V_alloc | apply Kd.V_drewN | apply Kd.V_drew)); exact HO_3.out) hb)
      have n2_ := zK (Kd.R_below (by (with_reducible repeat (first | apply Kd.R_alloc | apply Kd.R_drewN | apply Kd.R_drew)); exact HO_27.out) hb)
      have n3_ := zK (Kd.V_below (by (with_reducible repeat (first | apply Kd.V_alloc | apply Kd.V_drewN | apply Kd.V_drew)); exact HO188.out) hb)
      have n4_ := zK (Kd.V_below (by (with_reducible repeat (first | apply Kd.V_alloc | apply Kd.V_drewN | apply Kd.V_drew)); exact HO193.out) hb)
      have n5_ := zK (zg (g := gb165) (o := .cells #[.int .i64 a2_0, .int .i64 a2_1] 45 (0, 0)) (by (with_reducible repeat (first | refine zn ?_ _ | refine zd ?_ | refine za ?_ _)); exact BK165.out) hb)
      have n6_ := zK (zg (g := gb166) (o := .cells #[.int .i64 a5_0, .int .i64 a5_1] 45 (0, 0)) (by (with_reducible repeat (first | refine zn ?_ _ | refine zd ?_ | refine za ?_ _)); exact BK166.out) hb)
      have n7_ := zK (zg (g := gb167) (o := .cells #[.int .i64 a7_0, .int .i64 a7_1] 45 (0, 0)) (by (with_reducible repeat (first | refine zn ?_ _ | refine zd ?_ | refine za ?_ _)); exact BK167.out) hb)
      have n8_ := zK (zp zB hb)
      clear HO_0
      clear HO_3
      clear HO_27
      clear HO188
      clear HO193
      clear BK165
      clear BK166
      clear BK167
      clear HB
      have HO_0 := n0_
      have HO_3 := n1_
      have HO_27 := n2_
      have HO188 := n3_
      have HO193 := n4_
      have BK165 := n5_
      have BK166 := n6_
      have BK167 := n7_
      have HB := n8_
      clear n0_ n1_ n2_ n3_ n4_ n5_ n6_ n7_ n8_
      (try clear hb)
      (try clear hb2)
      (try clear hk)
      (try clear hi)
      refine hK.out _ _ ⟨(zc BK167.out 0).trans rfl, (zc BK167.out 1).trans rfl⟩ (fun hHeld => ?_)
      clear hK K
      refine norm_ (a' := ?_) ?_ ?_
      rotate_left
      · show Act.put _ (some 158) _ = _
        simp only [Act.put, List.setIfInBounds_toArray, List.set_cons_zero, List.set_cons_succ, i64_w, i32_w]
        rfl
      refine one_ (i := 6) (N := some 162) #[true, true, true, true, true, true, true, false, false, false] rfl rfl (one_of HT_.out (by kernel_rfl)) (by decide) (fun K hK => ?_)
      refine goes_ Try.func68 (by kernel_rfl) rfl #[.int .i64 t196, .int .i64 t168, .int .i64 t169, .agg #[.int .i64 a7_0, .int .i64 a7_1]] (by rfl) rfl rfl zL ?_
      with_reducible refine (impl_Requant.calls k6 t196 t168 t169 a7_0 a7_1 t197 _ A67.out).mono ?_
      rintro e w75 ⟨rfl, hb⟩
      refine ⟨_, rfl, ?_⟩
      have n0_ := zK (Kd.V_below (by (with_reducible repeat (first | apply Kd.V_alloc | apply Kd.V_drewN | apply Kd.V_drew)); exact HO_0.out) hb)
      have n1_ := zK (Kd.V_below (by (with_reducible repeat (first | apply Kd.V_alloc | apply Kd.V_drewN | apply Kd.V_drew)); exact HO_3.out) hb)
      have n2_ := zK (Kd.R_below (by (with_reducible repeat (first | apply Kd.R_alloc | apply Kd.R_drewN | apply Kd.R_drew)); exact HO_27.out) hb)
      have n3_ := zK (Kd.V_below (by (with_reducible repeat (first | apply Kd.V_alloc | apply Kd.V_drewN | apply Kd.V_drew)); exact HO188.out) hb)
      have n4_ := zK (Kd.V_below (by (with_reducible repeat (first | apply Kd.V_alloc | apply Kd.V_drewN | apply Kd.V_drew)); exact HO193.out) hb)
      have n5_ := zK (zg (g := gb165) (o := .cells #[.int .i64 a2_0, .int .i64 a2_1] 45 (0, 0)) (by (with_reducible repeat (first | refine zn ?_ _ | refine zd ?_ | refine za ?_ _)); exact BK165.out) hb)
      have n6_ := zK (zg (g := gb166) (o := .cells #[.int .i64 a5_0, .int .i64 a5_1] 45 (0, 0)) (by (with_reducible repeat (first | refine zn ?_ _ | refine zd ?_ | refine za ?_ _)); exact BK166.out) hb)
      have n7_ := zK (zg (g := gb167) (o := .cells #[.int .i64 a7_0, .int .i64 a7_1] 45 (0, 0)) (by (with_reducible repeat (first | refine zn ?_ _ | refine zd ?_ | refine za ?_ _)); exact BK167.out) hb)
      have n8_ := zK (zp zB hb)
      clear HO_0
      clear HO_3
      clear HO_27
      clear HO188
      clear HO193
      clear BK165
      clear BK166
      clear BK167
      clear HB
      have HO_0 := n0_
      have HO_3 := n1_
      have HO_27 := n2_
      have HO188 := n3_
      have HO193 := n4_
      have BK165 := n5_
      have BK166 := n6_
      have BK167 := n7_
      have HB := n8_
      clear n0_ n1_ n2_ n3_ n4_ n5_ n6_ n7_ n8_
      (try clear hb)
      (try clear hb2)
      (try clear hk)
      (try clear hi)
      refine hK.out _ _ ⟨(zc BK167.out 0).trans rfl, (zc BK167.out 1).trans rfl⟩ (fun hHeld => ?_)
      clear hK K
      refine norm_ (a' := ?_) ?_ ?_
      rotate_left
      · show Act.put _ (some 162) _ = _
        simp only [Act.put, List.setIfInBounds_toArray, List.set_cons_zero, List.set_cons_succ, i64_w, i32_w]
        rfl
      refine one_ (i := 7) (N := some 163) #[true, true, true, true, true, true, true, true, false, false] rfl rfl (one_of HT_.out (by kernel_rfl)) (by decide) (fun K hK => ?_)
      refine value_ (w1 := ?_) (v := ?_) (by rfl) rfl ?_ ?_
      rotate_left 2
      · go_simp
        constructor
        · rfl
        · rfl
      refine hK.out _ _ ⟨(zc (za BK167.out _) 0).trans rfl, (zc (za BK167.out _) 1).trans rfl⟩ (fun hHeld => ?_)
      clear hK K
      refine norm_ (a' := ?_) ?_ ?_
      rotate_left
      · show Act.put _ (some 163) _ = _
        simp only [Act.put, List.setIfInBounds_toArray, List.set_cons_zero, List.set_cons_succ, i64_w, i32_w]
        rfl
      refine one_ (i := 8) (N := some 164) #[true, true, true, true, true, true, true, true, true, false] rfl rfl (one_of HT_.out (by kernel_rfl)) (by decide) (fun K hK => ?_)
      refine Kd.R_append_step (Kd.int .i64) (w0 := w) w.heap.size (by rfl) (.tmp 156) (.tmp 163) 22 3 (.int .i64 0) 8 rfl Try.underlying22 info3 rfl (by decide) (by omega) u27 x27_6 t197 [.int .i64 t197] (fun k_ => (w.heap.size ≤ k_)) (fun _ => False) rfl rfl ?aP (fun _ hk => hk.elim) ?aF ?aO ?aB ?aS ?aL ?_
      (case aP => exact rfl)
      (case aB => exact zB)
      (case aF => exact (fun k_ hk => (Nat.le_trans (zz zB) hk)))
      (case aO => exact (by (with_reducible repeat (first | apply Kd.R_alloc | apply Kd.R_drewN | apply Kd.R_drew)); exact HO_27.out))
      (case aS => exact (zz zB))
      (case aL => have := LMc68.out; omega)
      intro v199 w76 ho hb hg hat
      rw [← Ny198.out] at ho
      have n0_ := zK (Kd.V_afterv (ok := (fun k_ => ((P0_ k_ ∨ P3_ k_) ∨ w.heap.size ≤ k_) ∧ k_ ≠ gb165 ∧ k_ ≠ gb166 ∧ k_ ≠ gb167)) (by (with_reducible repeat (first | apply Kd.V_alloc | apply Kd.V_drewN | apply Kd.V_drew)); exact Kd.V_mono HO_0.out (fun _ hk => ⟨⟨hk.1, ⟨hk.2.2.1, ⟨hk.2.2.2.1, hk.2.2.2.2⟩⟩⟩, hk.2.1⟩)) hg hat)
      have n1_ := zK (Kd.V_afterv (ok := (fun k_ => ((P0_ k_ ∨ P3_ k_) ∨ w.heap.size ≤ k_) ∧ k_ ≠ gb165 ∧ k_ ≠ gb166 ∧ k_ ≠ gb167)) (by (with_reducible repeat (first | apply Kd.V_alloc | apply Kd.V_drewN | apply Kd.V_drew)); exact Kd.V_mono HO_3.out (fun _ hk => ⟨⟨hk.1, ⟨hk.2.2.1, ⟨hk.2.2.2.1, hk.2.2.2.2⟩⟩⟩, hk.2.1⟩)) hg hat)
      have n2_ := zK (blk_grown (g := gb165) (o := .cells #[.int .i64 a2_0, .int .i64 a2_1] 45 (0, 0)) (by (with_reducible repeat (first | refine zn ?_ _ | refine zd ?_ | refine za ?_ _)); exact BK165.out) hg (Kd.R_ne HO_27.out BK165.out (by decide)))
      have n3_ := zK (blk_grown (g := gb166) (o := .cells #[.int .i64 a5_0, .int .i64 a5_1] 45 (0, 0)) (by (with_reducible repeat (first | refine zn ?_ _ | refine zd ?_ | refine za ?_ _)); exact BK166.out) hg (Kd.R_ne HO_27.out BK166.out (by decide)))
      have n4_ := zK (blk_grown (g := gb167) (o := .cells #[.int .i64 a7_0, .int .i64 a7_1] 45 (0, 0)) (by (with_reducible repeat (first | refine zn ?_ _ | refine zd ?_ | refine za ?_ _)); exact BK167.out) hg (Kd.R_ne HO_27.out BK167.out (by decide)))
      have n5_ := zK (Kd.V_afterv (ok := (fun k_ => ((P0_ k_ ∨ P3_ k_) ∨ w.heap.size ≤ k_) ∧ k_ ≠ gb165 ∧ k_ ≠ gb166 ∧ k_ ≠ gb167)) (by (with_reducible repeat (first | apply Kd.V_alloc | apply Kd.V_drewN | apply Kd.V_drew)); exact Kd.V_mono HO188.out (fun _ hk => ⟨⟨hk.1, ⟨hk.2.2.1, ⟨hk.2.2.2.1, hk.2.2.2.2⟩⟩⟩, hk.2.1⟩)) hg hat)
      have n6_ := zK (Kd.V_afterv (ok := (fun k_ => ((P0_ k_ ∨ P3_ k_) ∨ w.heap.size ≤ k_) ∧ k_ ≠ gb165 ∧ k_ ≠ gb166 ∧ k_ ≠ gb167)) (by (with_reducible repeat (first | apply Kd.V_alloc | apply Kd.V_drewN | apply Kd.V_drew)); exact Kd.V_mono HO193.out (fun _ hk => ⟨⟨hk.1, ⟨hk.2.2.1, ⟨hk.2.2.2.1, hk.2.2.2.2⟩⟩⟩, hk.2.1⟩)) hg hat)
      have n7_ := zK (hb)
      have n8_ := zK (ho)
      clear HO_0
      clear HO_3
      clear BK165
      clear BK166
      clear BK167
      clear HO188
      clear HO193
      clear HB
      clear HO_27
      have HO_0 := n0_
      have HO_3 := n1_
      have BK165 := n2_
      have BK166 := n3_
      have BK167 := n4_
      have HO188 := n5_
      have HO193 := n6_
      have HB := n7_
      have HO200 := n8_
      clear n0_ n1_ n2_ n3_ n4_ n5_ n6_ n7_ n8_
      clear ho hb hg hat
      refine hK.out _ _ ⟨(zc BK167.out 0).trans rfl, (zc BK167.out 1).trans rfl⟩ (fun hHeld => ?_)
      clear hK K
      refine norm_ (a' := ?_) ?_ ?_
      rotate_left
      · show Act.put _ (some 164) _ = _
        simp only [Act.put, List.setIfInBounds_toArray, List.set_cons_zero, List.set_cons_succ, i64_w, i32_w]
        rfl
      refine pure_ (i := 9) (N := some 27) (v := ?_) (a' := ?_) #[true, true, true, true, true, true, true, true, true, true] rfl rfl (any_of HT_.out (by kernel_rfl)) (fun _ _ _ h => h) (Or.inl ⟨by rfl, ?_⟩) ?_ ?_
      rotate_left
      · intro w'
        go_simp
        with_reducible rfl
      rotate_left
      · simp only [Act.put, List.setIfInBounds_toArray, List.set_cons_zero, List.set_cons_succ, i64_w, i32_w]
        rfl
      refine done_ (done_of HT_.out (by kernel_rfl)) ?_
      try go_wp2
      go_roundg k6
      case measure => have := HJ9.out; have := HJ30.out; have := HK3.out; have := HK4.out; have := HK5.out; have := HK6.out; omega
      case rel => exact ⟨(y198), (wrap64 (x127_6 + 1)), zR, H', ⟨by have := HJ9.out; have := HJ30.out; have := HK3.out; have := HK4.out; have := HK5.out; have := HK6.out; omega⟩, ⟨by (with_reducible repeat (first | apply Kd.V_alloc | apply Kd.V_drewN | apply Kd.V_drew)); exact Kd.V_mono HO_0.out (fun _ hk => ⟨hk.1.1, ⟨hk.2, ⟨hk.1.2.1, ⟨hk.1.2.2.1, hk.1.2.2.2⟩⟩⟩⟩)⟩, ⟨by (with_reducible repeat (first | apply Kd.V_alloc | apply Kd.V_drewN | apply Kd.V_drew)); exact Kd.V_mono HO_3.out (fun _ hk => ⟨hk.1.1, ⟨hk.2, ⟨hk.1.2.1, ⟨hk.1.2.2.1, hk.1.2.2.2⟩⟩⟩⟩)⟩, ⟨by (with_reducible repeat (first | apply Kd.R_alloc | apply Kd.R_drewN | apply Kd.R_drew)); exact HO200.out⟩, ⟨by (with_reducible repeat (first | refine zn ?_ _ | refine zd ?_ | refine za ?_ _)); exact BK165.out⟩, ⟨by (with_reducible repeat (first | refine zn ?_ _ | refine zd ?_ | refine za ?_ _)); exact BK166.out⟩, ⟨by (with_reducible repeat (first | refine zn ?_ _ | refine zd ?_ | refine za ?_ _)); exact BK167.out⟩, ⟨zB⟩⟩

end Go.Proofs.Ytemcipcijhkhjaa.PFnMatBound
