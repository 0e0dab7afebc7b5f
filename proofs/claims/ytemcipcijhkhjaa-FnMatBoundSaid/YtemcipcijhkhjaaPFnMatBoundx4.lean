-- Printed out of the translation by this session's own turned copy of a printer; Lean checks it.
import Derived.Test.YtemcipcijhkhjaaPFnMatBoundx0
import Derived.Test.YtemcipcijhkhjaaPFnMatBoundx1
import Derived.Test.YtemcipcijhkhjaaPFnMatBoundx3
namespace Go.Proofs.Ytemcipcijhkhjaa.PFnMatBound
open Go.RowKit Go.Proofs.YtemcipcijhkhjaaW.PrintWords Go.Proofs.YtemcipcijhkhjaaW.PrintLast Go.Proofs.YtemcipcijhkhjaaW.PrintMore
attribute [local go_sem] max2_int min2_int max_two min_two max_three min_three max_four min_four   -- for this text's walks alone
set_option linter.unusedVariables false
set_option linter.unusedSimpArgs false

/-! ### impl_Factor: function 64 -/
mutual
def impl_Factor.l0 : Nat → List (S45) → Int → Int → Int → Int → Int → Int → Int → Int → Option (Int × Int × Bool)
  | 0, _, _, _, _, _, _, _, _, _ => none
  | k + 1, x17, x18, x19, x137000, x137001, x138000, x138001, x139000, x139001 => if x19 < x18 then (if 0 ≤ x19 then (if x19 < (x17.length : Int) then ((impl_ScaleOk.f ((rd_T45 x17 x19).f0) ((rd_T45 x17 x19).f1)).bind fun t144 => (if t144 = true then (if ((rd_T45 x17 x19).f0) > 16777216 then (some (0, 0, false)) else (impl_Factor.l0 k x17 x18 (wrap64 (x19 + 1)) x137000 x137001 x138000 x138001 x139000 x139001)) else (some (0, 0, false)))) else (none)) else (none)) else (impl_Factor.l1 k 62 x137000 x137001 x138000 x138001 x139000 x139001)
def impl_Factor.l1 : Nat → Int → Int → Int → Int → Int → Int → Int → Option (Int × Int × Bool)
  | 0, _, _, _, _, _, _, _ => none
  | k + 1, x11, x137000, x137001, x138000, x138001, x139000, x139001 => if x11 ≥ 0 then ((impl_scaled.f k (wrap64 (x137000 * x138000)) (wrap64 (65536 * x139000)) x11).bind fun bt145 => (if bt145.2 = true then (some (bt145.1, x11, true)) else (impl_Factor.l1 k (wrap64 (x11 - 1)) x137000 x137001 x138000 x138001 x139000 x139001))) else (some (0, 0, false))
end
def impl_Factor.f (k : Nat) (a0_0 : Int) (a0_1 : Int) (a1_0 : Int) (a1_1 : Int) (a2_0 : Int) (a2_1 : Int) : Option (Int × Int × Bool) := (some (([(⟨a0_0, a0_1⟩ : S45), (⟨a1_0, a1_1⟩ : S45), (⟨a2_0, a2_1⟩ : S45)] : List (S45)) : List (S45))).bind fun y139 => (impl_Factor.l0 k y139 (y139.length : Int) 0 a0_0 a0_1 a1_0 a1_1 a2_0 a2_1)
theorem impl_Factor.mono_l : ∀ k, (∀ y0 y1 y2 y3 y4 y5 y6 y7 y8, LeO (impl_Factor.l0 k y0 y1 y2 y3 y4 y5 y6 y7 y8) (impl_Factor.l0 (k + 1) y0 y1 y2 y3 y4 y5 y6 y7 y8)) ∧ (∀ y0 y1 y2 y3 y4 y5 y6, LeO (impl_Factor.l1 k y0 y1 y2 y3 y4 y5 y6) (impl_Factor.l1 (k + 1) y0 y1 y2 y3 y4 y5 y6))
  | 0 => ⟨fun _ _ _ _ _ _ _ _ _ r h => by simp [impl_Factor.l0] at h, fun _ _ _ _ _ _ _ r h => by simp [impl_Factor.l1] at h⟩
  | k + 1 => by
    obtain ⟨ih0, ih1⟩ := impl_Factor.mono_l k
    refine ⟨?_, ?_⟩
    · intro y0 y1 y2 y3 y4 y5 y6 y7 y8
      unfold impl_Factor.l0
      repeat' first
      | (with_reducible exact ih0 _ _ _ _ _ _ _ _ _)
      | (with_reducible exact ih1 _ _ _ _ _ _ _)
      | (with_reducible exact impl_scaled.mono _ _ _ _)
      | (with_reducible exact LeO.refl _)
      | (with_reducible exact LeO.none _)
      | (with_reducible refine LeO.ite ?_ ?_)
      | (with_reducible refine LeO.bind ?_ (fun _ => ?_))
      | exact ih0 _ _ _ _ _ _ _ _ _
      | exact ih1 _ _ _ _ _ _ _
      | exact impl_scaled.mono _ _ _ _
      | exact LeO.none _
      | refine LeO.ite ?_ ?_
      | refine LeO.bind ?_ (fun _ => ?_)
    · intro y0 y1 y2 y3 y4 y5 y6
      unfold impl_Factor.l1
      repeat' first
      | (with_reducible exact ih0 _ _ _ _ _ _ _ _ _)
      | (with_reducible exact ih1 _ _ _ _ _ _ _)
      | (with_reducible exact impl_scaled.mono _ _ _ _)
      | (with_reducible exact LeO.refl _)
      | (with_reducible exact LeO.none _)
      | (with_reducible refine LeO.ite ?_ ?_)
      | (with_reducible refine LeO.bind ?_ (fun _ => ?_))
      | exact ih0 _ _ _ _ _ _ _ _ _
      | exact ih1 _ _ _ _ _ _ _
      | exact impl_scaled.mono _ _ _ _
      | exact LeO.none _
      | refine LeO.ite ?_ ?_
      | refine LeO.bind ?_ (fun _ => ?_)
theorem impl_Factor.mono : ∀ a0 a1 a2 a3 a4 a5 k, LeO (impl_Factor.f k a0 a1 a2 a3 a4 a5) (impl_Factor.f (k + 1) a0 a1 a2 a3 a4 a5) := by
  intro a0 a1 a2 a3 a4 a5 k
  obtain ⟨ih0, ih1⟩ := impl_Factor.mono_l k
  unfold impl_Factor.f
  repeat' first
      | (with_reducible exact ih0 _ _ _ _ _ _ _ _ _)
      | (with_reducible exact ih1 _ _ _ _ _ _ _)
      | (with_reducible exact impl_scaled.mono _ _ _ _)
      | (with_reducible exact LeO.refl _)
      | (with_reducible exact LeO.none _)
      | (with_reducible refine LeO.ite ?_ ?_)
      | (with_reducible refine LeO.bind ?_ (fun _ => ?_))
      | exact ih0 _ _ _ _ _ _ _ _ _
      | exact ih1 _ _ _ _ _ _ _
      | exact impl_scaled.mono _ _ _ _
      | exact LeO.none _
      | refine LeO.ite ?_ ?_
      | refine LeO.bind ?_ (fun _ => ?_)
set_option maxHeartbeats 8000000 in
set_option maxRecDepth 100000 in
theorem impl_Factor.calls (k : Nat) (a0_0 : Int) (a0_1 : Int) (a1_0 : Int) (a1_1 : Int) (a2_0 : Int) (a2_1 : Int) (r1 : Int) (r2 : Int) (r3 : Bool) (w : World) (h : impl_Factor.f k a0_0 a0_1 a1_0 a1_1 a2_0 a2_1 = some (r1, r2, r3)) :
    Calls Try.prog 64 #[.agg #[.int .i64 a0_0, .int .i64 a0_1], .agg #[.int .i64 a1_0, .int .i64 a1_1], .agg #[.int .i64 a2_0, .int .i64 a2_1]] w fun e w' => e = .returned (.tuple #[.int .i64 r1, .int .i64 r2, .bool r3]) ∧ Below w.heap.size w w' := by
  have hu45 := Try.underlying45
  have HB := zK (Below.refl w.heap.size w)
  have H : ((some (([(⟨a0_0, a0_1⟩ : S45), (⟨a1_0, a1_1⟩ : S45), (⟨a2_0, a2_1⟩ : S45)] : List (S45)) : List (S45))).bind fun y139 => (impl_Factor.l0 k y139 (y139.length : Int) 0 a0_0 a0_1 a1_0 a1_1 a2_0 a2_1)) = some (r1, r2, r3) := h
  clear h
  obtain ⟨y139, hy139⟩ : ∃ y_ : List (S45), y_ = (([(⟨a0_0, a0_1⟩ : S45), (⟨a1_0, a1_1⟩ : S45), (⟨a2_0, a2_1⟩ : S45)] : List (S45))) := ⟨_, rfl⟩
  replace H : (impl_Factor.l0 k y139 (y139.length : Int) 0 a0_0 a0_1 a1_0 a1_1 a2_0 a2_1) = some (r1, r2, r3) := by first | (rw [hy139]; with_reducible exact H) | (have H2_ := (Option.bind_some _ _).symm.trans H; rw [hy139]; with_reducible exact H2_) | (have H2_ := (Option.bind_some _ _).symm.trans H; with_reducible exact H2_) | with_reducible exact H | (rw [hy139]; exact H) | exact H
  have Ny139 := zK hy139
  clear hy139
  have H' := zK H
  clear H
  go_enter Try.func64, Try.ntmps64
  go_wp2_with (first | ((with_reducible refine gate_dst (N := 3) rfl ?_); refine box_event ?hg (N := 3) ?hd (cs := #[.int .i64 a0_0, .int .i64 a0_1]) (t := 45) ?hr ?_; (case hd => rfl); (case hg => rfl); (case hr => first | (go_simp; done) | (go_simp; rfl)); intro gb136 hg w4 hbox hb; have n0_ := zK (zp zB hb); have n1_ := zK (hbox); have n2_ := zK ((by rw [hg]; exact (zz zB) : w.heap.size ≤ gb136)); have n3_ := zK ((by rw [hg]; exact (zz zB) : w.heap.size ≤ gb136)); clear HB; have HB := n0_; have BK136 := n1_; have GW136 := n2_; have GE136 := n3_; clear n0_ n1_ n2_ n3_; clear hb hbox hg) | ((with_reducible refine gate_dst (N := 4) rfl ?_); refine box_event ?hg (N := 4) ?hd (cs := #[.int .i64 a1_0, .int .i64 a1_1]) (t := 45) ?hr ?_; (case hd => rfl); (case hg => rfl); (case hr => first | (go_simp; done) | (go_simp; rfl)); intro gb137 hg w5 hbox hb; have n0_ := zK (zg (g := gb136) (o := .cells #[.int .i64 a0_0, .int .i64 a0_1] 45 (0, 0)) (by (with_reducible repeat (first | refine zn ?_ _ | refine zd ?_ | refine za ?_ _)); exact BK136.out) hb); have n1_ := zK (zp zB hb); have n2_ := zK (hbox); have n3_ := zK ((by rw [hg]; exact (zz zB) : w.heap.size ≤ gb137)); have n4_ := zK ((by rw [hg]; exact (zz zB) : w.heap.size ≤ gb137)); have n5_ := zK ((by rw [hg]; exact Nat.ne_of_lt (blk_lt (g := gb136) (o := .cells #[.int .i64 a0_0, .int .i64 a0_1] 45 (0, 0)) (by (with_reducible repeat (first | refine zn ?_ _ | refine zd ?_ | refine za ?_ _)); exact BK136.out)) : gb136 ≠ gb137)); have n6_ := zK ((by rw [hg]; exact Nat.ne_of_gt (blk_lt (g := gb136) (o := .cells #[.int .i64 a0_0, .int .i64 a0_1] 45 (0, 0)) (by (with_reducible repeat (first | refine zn ?_ _ | refine zd ?_ | refine za ?_ _)); exact BK136.out)) : gb137 ≠ gb136)); clear BK136; clear HB; have BK136 := n0_; have HB := n1_; have BK137 := n2_; have GW137 := n3_; have GE137 := n4_; have NB136_137 := n5_; have NB137_136 := n6_; clear n0_ n1_ n2_ n3_ n4_ n5_ n6_; clear hb hbox hg) | ((with_reducible refine gate_dst (N := 5) rfl ?_); refine box_event ?hg (N := 5) ?hd (cs := #[.int .i64 a2_0, .int .i64 a2_1]) (t := 45) ?hr ?_; (case hd => rfl); (case hg => rfl); (case hr => first | (go_simp; done) | (go_simp; rfl)); intro gb138 hg w6 hbox hb; have n0_ := zK (zg (g := gb136) (o := .cells #[.int .i64 a0_0, .int .i64 a0_1] 45 (0, 0)) (by (with_reducible repeat (first | refine zn ?_ _ | refine zd ?_ | refine za ?_ _)); exact BK136.out) hb); have n1_ := zK (zg (g := gb137) (o := .cells #[.int .i64 a1_0, .int .i64 a1_1] 45 (0, 0)) (by (with_reducible repeat (first | refine zn ?_ _ | refine zd ?_ | refine za ?_ _)); exact BK137.out) hb); have n2_ := zK (zp zB hb); have n3_ := zK (hbox); have n4_ := zK ((by rw [hg]; exact (zz zB) : w.heap.size ≤ gb138)); have n5_ := zK ((by rw [hg]; exact (zz zB) : w.heap.size ≤ gb138)); have n6_ := zK ((by rw [hg]; exact Nat.ne_of_lt (blk_lt (g := gb136) (o := .cells #[.int .i64 a0_0, .int .i64 a0_1] 45 (0, 0)) (by (with_reducible repeat (first | refine zn ?_ _ | refine zd ?_ | refine za ?_ _)); exact BK136.out)) : gb136 ≠ gb138)); have n7_ := zK ((by rw [hg]; exact Nat.ne_of_gt (blk_lt (g := gb136) (o := .cells #[.int .i64 a0_0, .int .i64 a0_1] 45 (0, 0)) (by (with_reducible repeat (first | refine zn ?_ _ | refine zd ?_ | refine za ?_ _)); exact BK136.out)) : gb138 ≠ gb136)); have n8_ := zK ((by rw [hg]; exact Nat.ne_of_lt (blk_lt (g := gb137) (o := .cells #[.int .i64 a1_0, .int .i64 a1_1] 45 (0, 0)) (by (with_reducible repeat (first | refine zn ?_ _ | refine zd ?_ | refine za ?_ _)); exact BK137.out)) : gb137 ≠ gb138)); have n9_ := zK ((by rw [hg]; exact Nat.ne_of_gt (blk_lt (g := gb137) (o := .cells #[.int .i64 a1_0, .int .i64 a1_1] 45 (0, 0)) (by (with_reducible repeat (first | refine zn ?_ _ | refine zd ?_ | refine za ?_ _)); exact BK137.out)) : gb138 ≠ gb137)); clear BK136; clear BK137; clear HB; have BK136 := n0_; have BK137 := n1_; have HB := n2_; have BK138 := n3_; have GW138 := n4_; have GE138 := n5_; have NB136_138 := n6_; have NB138_136 := n7_; have NB137_138 := n8_; have NB138_137 := n9_; clear n0_ n1_ n2_ n3_ n4_ n5_ n6_ n7_ n8_ n9_; clear hb hbox hg; have hnb7 := NB136_137.out; have hnc7 := NB137_136.out; have hnb8 := NB136_138.out; have hnc8 := NB138_136.out; have hcz9_0 : w6.cell? ⟨gb136, 0, none⟩ = some (.int .i64 a0_0) := (zc BK136.out 0).trans rfl; have hcz9_1 : w6.cell? ⟨gb136, 1, none⟩ = some (.int .i64 a0_1) := (zc BK136.out 1).trans rfl; have hfz9_0 := zf BK136.out 0; have hfz9_1 := zf BK136.out 1; have hnb10 := NB137_138.out; have hnc10 := NB138_137.out; have hcz11_0 : w6.cell? ⟨gb137, 0, none⟩ = some (.int .i64 a1_0) := (zc BK137.out 0).trans rfl; have hcz11_1 : w6.cell? ⟨gb137, 1, none⟩ = some (.int .i64 a1_1) := (zc BK137.out 1).trans rfl; have hfz11_0 := zf BK137.out 0; have hfz11_1 := zf BK137.out 1; have hcz12_0 : w6.cell? ⟨gb138, 0, none⟩ = some (.int .i64 a2_0) := (zc BK138.out 0).trans rfl; have hcz12_1 : w6.cell? ⟨gb138, 1, none⟩ = some (.int .i64 a2_1) := (zc BK138.out 1).trans rfl; have hfz12_0 := zf BK138.out 0; have hfz12_1 := zf BK138.out 1) | ((with_reducible refine gate_dst (N := 17) rfl ?_); refine Kd.R_lit k45 _ 45 ?hg (N := 17) ?hd (xs := ([(⟨a0_0, a0_1⟩ : S45), (⟨a1_0, a1_1⟩ : S45), (⟨a2_0, a2_1⟩ : S45)] : List (S45))) (inner := [.int .i64 a0_0, .int .i64 a0_1, .int .i64 a1_0, .int .i64 a1_1, .int .i64 a2_0, .int .i64 a2_1]) (ok := fun _ => True) (okp := fun _ => True) ?hr ?hp (fun _ hk => hk) trivial (Below.refl _ _) (Nat.le_refl _) (by simp) ?_; (case hd => rfl); (case hg => rfl); (case hr => first | (go_simp; done) | (go_simp; rfl)); (case hp => exact (Reps.c2 (show Kd.M k45 _ _ _ (⟨a0_0, a0_1⟩ : S45) [.int .i64 a0_0, .int .i64 a0_1] from (k45_mkM _ _ _ (⟨a0_0, a0_1⟩ : S45) )) (Reps.c2 (show Kd.M k45 _ _ _ (⟨a1_0, a1_1⟩ : S45) [.int .i64 a1_0, .int .i64 a1_1] from (k45_mkM _ _ _ (⟨a1_0, a1_1⟩ : S45) )) (Reps.c2 (show Kd.M k45 _ _ _ (⟨a2_0, a2_1⟩ : S45) [.int .i64 a2_0, .int .i64 a2_1] from (k45_mkM _ _ _ (⟨a2_0, a2_1⟩ : S45) )) (Reps.none _ _))))); intro v140 w13 ho14 hb hg_ hnew_; clear hg_ hnew_; (first | rw [← Ny139.out] at ho14 | (simp only [Int.reduceToNat] at ho14; rw [← Ny139.out] at ho14)); have n0_ := zK (Kd.R_lower (Kd.R_newB (Kd.R_newB (Kd.R_newB ho14 (g := gb136) (o := .cells #[.int .i64 a0_0, .int .i64 a0_1] 45 (0, 0)) (by (with_reducible repeat (first | refine zn ?_ _ | refine zd ?_ | refine za ?_ _)); exact BK136.out)) (g := gb137) (o := .cells #[.int .i64 a1_0, .int .i64 a1_1] 45 (0, 0)) (by (with_reducible repeat (first | refine zn ?_ _ | refine zd ?_ | refine za ?_ _)); exact BK137.out)) (g := gb138) (o := .cells #[.int .i64 a2_0, .int .i64 a2_1] 45 (0, 0)) (by (with_reducible repeat (first | refine zn ?_ _ | refine zd ?_ | refine za ?_ _)); exact BK138.out)) (zz zB)); have n1_ := zK (zg (g := gb136) (o := .cells #[.int .i64 a0_0, .int .i64 a0_1] 45 (0, 0)) (by (with_reducible repeat (first | refine zn ?_ _ | refine zd ?_ | refine za ?_ _)); exact BK136.out) hb); have n2_ := zK (zg (g := gb137) (o := .cells #[.int .i64 a1_0, .int .i64 a1_1] 45 (0, 0)) (by (with_reducible repeat (first | refine zn ?_ _ | refine zd ?_ | refine za ?_ _)); exact BK137.out) hb); have n3_ := zK (zg (g := gb138) (o := .cells #[.int .i64 a2_0, .int .i64 a2_1] 45 (0, 0)) (by (with_reducible repeat (first | refine zn ?_ _ | refine zd ?_ | refine za ?_ _)); exact BK138.out) hb); have n4_ := zK (zp zB hb); clear BK136; clear BK137; clear BK138; clear HB; have HO141 := n0_; have BK136 := n1_; have BK137 := n2_; have BK138 := n3_; have HB := n4_; clear n0_ n1_ n2_ n3_ n4_; clear hb ho14; obtain ⟨Ao15, co15, eo15⟩ := Kd.R_slice HO141.out; subst eo15))
  go_loopg [19] k (fun kq v19 w' => ∃ (x19_1 : Int), v19 = .int .i64 x19_1 ∧ Aside0 (impl_Factor.l0 kq y139 (y139.length : Int) x19_1 a0_0 a0_1 a1_0 a1_1 a2_0 a2_1 = some (r1, r2, r3)) ∧ Aside0 (kq ≤ k) ∧ Aside0 (Kd.R k45 45 w' w.heap.size (fun k_ => k_ ≠ gb136 ∧ k_ ≠ gb137 ∧ k_ ≠ gb138) (.slice Ao15 y139.length co15) y139) ∧ Aside0 (w'.heap[gb136]? = some (.cells #[.int .i64 a0_0, .int .i64 a0_1] 45 (0, 0))) ∧ Aside0 (w'.heap[gb137]? = some (.cells #[.int .i64 a1_0, .int .i64 a1_1] 45 (0, 0))) ∧ Aside0 (w'.heap[gb138]? = some (.cells #[.int .i64 a2_0, .int .i64 a2_1] 45 (0, 0))) ∧ Aside0 (Below w.heap.size w w'))
  case atStart => exact ⟨(0), zR, H', ⟨Nat.le_refl _⟩, ⟨by (with_reducible repeat (first | apply Kd.R_alloc | apply Kd.R_drewN | apply Kd.R_drew)); exact Kd.R_mono HO141.out (fun _ hk => ⟨hk.1.1.2, ⟨hk.1.2, hk.2⟩⟩)⟩, ⟨by (with_reducible repeat (first | refine zn ?_ _ | refine zd ?_ | refine za ?_ _)); exact BK136.out⟩, ⟨by (with_reducible repeat (first | refine zn ?_ _ | refine zd ?_ | refine za ?_ _)); exact BK137.out⟩, ⟨by (with_reducible repeat (first | refine zn ?_ _ | refine zd ?_ | refine za ?_ _)); exact BK138.out⟩, ⟨zB⟩⟩
  clear H'
  try clear c1
  try clear c2
  try clear p2
  try clear c6
  try clear c7
  try clear c8
  try clear c10
  try clear hcz11_0
  try clear hcz11_1
  try clear hcz12_0
  try clear hcz12_1
  try clear hcz9_0
  try clear hcz9_1
  try clear hfz11_0
  try clear hfz11_1
  try clear hfz12_0
  try clear hfz12_1
  try clear hfz9_0
  try clear hfz9_1
  obtain ⟨x19_1, rfl, HA, HK1, HO_17, BK136, BK137, BK138, HB⟩ := hrel
  rcases gk with _ | k1
  · exact absurd HA.out (by simp [impl_Factor.l0])
  have H := HA.out
  clear HA
  simp only [impl_Factor.l0] at H
  by_cases c16 : x19_1 < (y139.length : Int)
  rotate_left
  · rw [if_neg c16] at H
    have c16b0 : decide (x19_1 < (y139.length : Int)) = false := decide_eq_false c16
    clear c16
    have H' := zK H
    clear H
    go_wp2
    go_loopg [11] k1 (fun kq v11 w' => ∃ (x11_2 : Int), v11 = .int .i64 x11_2 ∧ Aside0 (impl_Factor.l1 kq x11_2 a0_0 a0_1 a1_0 a1_1 a2_0 a2_1 = some (r1, r2, r3)) ∧ Aside0 (kq ≤ k1) ∧ Aside0 (w'.heap[gb136]? = some (.cells #[.int .i64 a0_0, .int .i64 a0_1] 45 (0, 0))) ∧ Aside0 (w'.heap[gb137]? = some (.cells #[.int .i64 a1_0, .int .i64 a1_1] 45 (0, 0))) ∧ Aside0 (w'.heap[gb138]? = some (.cells #[.int .i64 a2_0, .int .i64 a2_1] 45 (0, 0))) ∧ Aside0 (Below w.heap.size w w'))
    case atStart => exact ⟨(62), zR, H', ⟨Nat.le_refl _⟩, ⟨by (with_reducible repeat (first | refine zn ?_ _ | refine zd ?_ | refine za ?_ _)); exact BK136.out⟩, ⟨by (with_reducible repeat (first | refine zn ?_ _ | refine zd ?_ | refine za ?_ _)); exact BK137.out⟩, ⟨by (with_reducible repeat (first | refine zn ?_ _ | refine zd ?_ | refine za ?_ _)); exact BK138.out⟩, ⟨zB⟩⟩
    clear H'
    try clear c1
    try clear p1
    try clear q1
    try clear hx1
    try clear c2
    try clear p2
    try clear c3
    try clear c6
    try clear p6
    try clear c7
    try clear c8
    try clear c10
    try clear p14
    try clear q14
    try clear hx14
    try clear c16
    try clear c16b0
    try clear c17
    try clear c17b0
    try clear c18
    try clear c18b0
    try clear c20
    try clear c21
    try clear c21b0
    try clear c23
    try clear c24
    try clear c25
    try clear c30
    try clear c31
    try clear c32
    try clear c37
    try clear c38
    try clear c39
    try clear hcz11_0
    try clear hcz11_1
    try clear hcz12_0
    try clear hcz12_1
    try clear hcz26_0
    try clear hcz26_1
    try clear hcz28_0
    try clear hcz28_1
    try clear hcz33_0
    try clear hcz33_1
    try clear hcz35_0
    try clear hcz35_1
    try clear hcz40_0
    try clear hcz40_1
    try clear hcz9_0
    try clear hcz9_1
    try clear hfz11_0
    try clear hfz11_1
    try clear hfz12_0
    try clear hfz12_1
    try clear hfz26_0
    try clear hfz26_1
    try clear hfz28_0
    try clear hfz28_1
    try clear hfz33_0
    try clear hfz33_1
    try clear hfz35_0
    try clear hfz35_1
    try clear hfz40_0
    try clear hfz40_1
    try clear hfz9_0
    try clear hfz9_1
    try clear hx142_0
    try clear hx142_1
    try clear p142
    try clear p2
    try clear q142
    obtain ⟨x11_2, rfl, HA, HK2, BK136, BK137, BK138, HB⟩ := hrel
    rcases gk with _ | k2
    · exact absurd HA.out (by simp [impl_Factor.l1])
    have H := HA.out
    clear HA
    simp only [impl_Factor.l1] at H
    by_cases c42 : x11_2 ≥ 0
    rotate_left
    · rw [if_neg c42] at H
      have c42b0 : decide (0 ≤ x11_2) = false := decide_eq_false c42
      clear c42
      simp only [Option.some.injEq, Prod.mk.injEq] at H
      obtain ⟨rfl, rfl, rfl⟩ := H
      go_wp2
      go_ret3
      exact ⟨by first | rfl | (simp [errW_none, errW_some] <;> rfl) | (simp [*, errW_none, errW_some] <;> rfl), zB⟩
    rw [if_pos c42] at H
    have c42b0 : decide (0 ≤ x11_2) = true := decide_eq_true c42
    clear c42
    replace H := Option.bind_eq_some_iff.mp H
    obtain ⟨⟨t145, t146⟩, A430, H⟩ := H
    replace H : (if t146 = true then (some (t145, x11_2, true)) else (impl_Factor.l1 k2 (wrap64 (x11_2 - 1)) a0_0 a0_1 a1_0 a1_1 a2_0 a2_1)) = some (r1, r2, r3) := H
    have A43 := zK A430
    clear A430
    by_cases c44 : t146 = true
    · subst c44
      have H1 : (some (t145, x11_2, true)) = some (r1, r2, r3) := by rw [if_pos rfl] at H; exact H
      clear H
      have H := H1
      clear H1
      simp only [Option.some.injEq, Prod.mk.injEq] at H
      obtain ⟨rfl, rfl, rfl⟩ := H
      have hnb45 := NB136_137.out
      have hnc45 := NB137_136.out
      have hnb46 := NB136_138.out
      have hnc46 := NB138_136.out
      have hcz47_0 : wr.cell? ⟨gb136, 0, none⟩ = some (.int .i64 a0_0) := (zc BK136.out 0).trans rfl
      have hcz47_1 : wr.cell? ⟨gb136, 1, none⟩ = some (.int .i64 a0_1) := (zc BK136.out 1).trans rfl
      have hfz47_0 := zf BK136.out 0
      have hfz47_1 := zf BK136.out 1
      have hnb48 := NB137_138.out
      have hnc48 := NB138_137.out
      have hcz49_0 : wr.cell? ⟨gb137, 0, none⟩ = some (.int .i64 a1_0) := (zc BK137.out 0).trans rfl
      have hcz49_1 : wr.cell? ⟨gb137, 1, none⟩ = some (.int .i64 a1_1) := (zc BK137.out 1).trans rfl
      have hfz49_0 := zf BK137.out 0
      have hfz49_1 := zf BK137.out 1
      have hcz50_0 : wr.cell? ⟨gb138, 0, none⟩ = some (.int .i64 a2_0) := (zc BK138.out 0).trans rfl
      have hcz50_1 : wr.cell? ⟨gb138, 1, none⟩ = some (.int .i64 a2_1) := (zc BK138.out 1).trans rfl
      have hfz50_0 := zf BK138.out 0
      have hfz50_1 := zf BK138.out 1
      go_wp2_with (first | ((with_reducible refine gate_callee (f := 117) rfl ?_); refine goesL_ (some 46) rfl rfl Try.func117 (by kernel_rfl) rfl #[.int .i64 (wrap64 (a0_0 * a1_0)), .int .i64 (wrap64 (65536 * a2_0)), .int .i64 x11_2] rfl zL ?_; (with_reducible refine (impl_scaled.calls k2 (wrap64 (a0_0 * a1_0)) (wrap64 (65536 * a2_0)) x11_2 t145 true _ A43.out).mono ?_); rintro e w' ⟨rfl, ⟨nd, rfl⟩⟩; refine ⟨_, rfl, ?_⟩))
      go_ret3
      exact ⟨by first | rfl | (simp [errW_none, errW_some] <;> rfl) | (simp [*, errW_none, errW_some] <;> rfl), zB⟩
    replace c44 := Bool.eq_false_iff.mpr c44
    subst c44
    have H1 : (impl_Factor.l1 k2 (wrap64 (x11_2 - 1)) a0_0 a0_1 a1_0 a1_1 a2_0 a2_1) = some (r1, r2, r3) := by rw [if_neg (show ¬ (false = true) by decide)] at H; exact H
    clear H
    have H := H1
    clear H1
    have H' := zK H
    clear H
    have hnb51 := NB136_137.out
    have hnc51 := NB137_136.out
    have hnb52 := NB136_138.out
    have hnc52 := NB138_136.out
    have hcz53_0 : wr.cell? ⟨gb136, 0, none⟩ = some (.int .i64 a0_0) := (zc BK136.out 0).trans rfl
    have hcz53_1 : wr.cell? ⟨gb136, 1, none⟩ = some (.int .i64 a0_1) := (zc BK136.out 1).trans rfl
    have hfz53_0 := zf BK136.out 0
    have hfz53_1 := zf BK136.out 1
    have hnb54 := NB137_138.out
    have hnc54 := NB138_137.out
    have hcz55_0 : wr.cell? ⟨gb137, 0, none⟩ = some (.int .i64 a1_0) := (zc BK137.out 0).trans rfl
    have hcz55_1 : wr.cell? ⟨gb137, 1, none⟩ = some (.int .i64 a1_1) := (zc BK137.out 1).trans rfl
    have hfz55_0 := zf BK137.out 0
    have hfz55_1 := zf BK137.out 1
    have hcz56_0 : wr.cell? ⟨gb138, 0, none⟩ = some (.int .i64 a2_0) := (zc BK138.out 0).trans rfl
    have hcz56_1 : wr.cell? ⟨gb138, 1, none⟩ = some (.int .i64 a2_1) := (zc BK138.out 1).trans rfl
    have hfz56_0 := zf BK138.out 0
    have hfz56_1 := zf BK138.out 1
    go_wp2_with (first | ((with_reducible refine gate_callee (f := 117) rfl ?_); refine goesL_ (some 46) rfl rfl Try.func117 (by kernel_rfl) rfl #[.int .i64 (wrap64 (a0_0 * a1_0)), .int .i64 (wrap64 (65536 * a2_0)), .int .i64 x11_2] rfl zL ?_; (with_reducible refine (impl_scaled.calls k2 (wrap64 (a0_0 * a1_0)) (wrap64 (65536 * a2_0)) x11_2 t145 false _ A43.out).mono ?_); rintro e w' ⟨rfl, ⟨nd, rfl⟩⟩; refine ⟨_, rfl, ?_⟩))
    go_roundg k2
    case measure => have := HK1.out; have := HK2.out; omega
    case rel => exact ⟨(wrap64 (x11_2 - 1)), zR, H', ⟨by have := HK1.out; have := HK2.out; omega⟩, ⟨by (with_reducible repeat (first | refine zn ?_ _ | refine zd ?_ | refine za ?_ _)); exact BK136.out⟩, ⟨by (with_reducible repeat (first | refine zn ?_ _ | refine zd ?_ | refine za ?_ _)); exact BK137.out⟩, ⟨by (with_reducible repeat (first | refine zn ?_ _ | refine zd ?_ | refine za ?_ _)); exact BK138.out⟩, ⟨zB⟩⟩
  rw [if_pos c16] at H
  have c16b0 : decide (x19_1 < (y139.length : Int)) = true := decide_eq_true c16
  clear c16
  by_cases c17 : 0 ≤ x19_1
  rotate_left
  · rw [if_neg c17] at H
    exact absurd H (by simp)
  rw [if_pos c17] at H
  have c17b0 : decide (0 ≤ x19_1) = true := decide_eq_true c17
  clear c17
  by_cases c18 : x19_1 < (y139.length : Int)
  rotate_left
  · rw [if_neg c18] at H
    exact absurd H (by simp)
  rw [if_pos c18] at H
  have c18b0 : decide (x19_1 < (y139.length : Int)) = true := decide_eq_true c18
  clear c18
  replace H := Option.bind_eq_some_iff.mp H
  obtain ⟨t144, A190, H⟩ := H
  replace H : (if t144 = true then (if ((rd_T45 y139 x19_1).f0) > 16777216 then (some (0, 0, false)) else (impl_Factor.l0 k1 y139 (y139.length : Int) (wrap64 (x19_1 + 1)) a0_0 a0_1 a1_0 a1_1 a2_0 a2_1)) else (some (0, 0, false))) = some (r1, r2, r3) := H
  have A19 := zK A190
  clear A190
  by_cases c20 : t144 = true
  rotate_left
  · replace c20 := Bool.eq_false_iff.mpr c20
    subst c20
    have H1 : (some (0, 0, false)) = some (r1, r2, r3) := by rw [if_neg (show ¬ (false = true) by decide)] at H; exact H
    clear H
    have H := H1
    clear H1
    simp only [Option.some.injEq, Prod.mk.injEq] at H
    obtain ⟨rfl, rfl, rfl⟩ := H
    have p142 : 0 ≤ (x19_1 : Int) := of_decide_eq_true zA
    have q142 : x19_1 < (y139.length : Int) := of_decide_eq_true zA
    obtain ⟨ad142, e142, hx142_0, hx142_1⟩ := at_T45 (Kd.R_reads' HO_17.out).2.2 x19_1 p142 q142
    cases e142
    replace p142 := eq_true p142
    replace q142 := eq_true q142
    go_wp2_with (first | ((with_reducible refine gate_dst (N := 10) rfl ?_); refine box_event ?hg (N := 10) ?hd (cs := #[.int .i64 0, .int .i64 0]) (t := 45) ?hr ?_; (case hd => rfl); (case hg => rfl); (case hr => first | (go_simp; done) | (go_simp; rfl)); intro gb143 hg w36 hbox hb; have n0_ := zK (Kd.R_below (Kd.R_elderB (by (with_reducible repeat (first | apply Kd.R_alloc | apply Kd.R_drewN | apply Kd.R_drew)); exact HO_17.out) gb143 (Nat.le_of_eq hg.symm)) hb); have n1_ := zK (zg (g := gb136) (o := .cells #[.int .i64 a0_0, .int .i64 a0_1] 45 (0, 0)) (by (with_reducible repeat (first | refine zn ?_ _ | refine zd ?_ | refine za ?_ _)); exact BK136.out) hb); have n2_ := zK (zg (g := gb137) (o := .cells #[.int .i64 a1_0, .int .i64 a1_1] 45 (0, 0)) (by (with_reducible repeat (first | refine zn ?_ _ | refine zd ?_ | refine za ?_ _)); exact BK137.out) hb); have n3_ := zK (zg (g := gb138) (o := .cells #[.int .i64 a2_0, .int .i64 a2_1] 45 (0, 0)) (by (with_reducible repeat (first | refine zn ?_ _ | refine zd ?_ | refine za ?_ _)); exact BK138.out) hb); have n4_ := zK (zp zB hb); have n5_ := zK (hbox); have n6_ := zK ((by rw [hg]; exact (zz zB) : w.heap.size ≤ gb143)); have n7_ := zK ((by rw [hg]; exact (zz zB) : w.heap.size ≤ gb143)); have n8_ := zK ((by rw [hg]; exact Nat.ne_of_lt (blk_lt (g := gb136) (o := .cells #[.int .i64 a0_0, .int .i64 a0_1] 45 (0, 0)) (by (with_reducible repeat (first | refine zn ?_ _ | refine zd ?_ | refine za ?_ _)); exact BK136.out)) : gb136 ≠ gb143)); have n9_ := zK ((by rw [hg]; exact Nat.ne_of_gt (blk_lt (g := gb136) (o := .cells #[.int .i64 a0_0, .int .i64 a0_1] 45 (0, 0)) (by (with_reducible repeat (first | refine zn ?_ _ | refine zd ?_ | refine za ?_ _)); exact BK136.out)) : gb143 ≠ gb136)); have n10_ := zK ((by rw [hg]; exact Nat.ne_of_lt (blk_lt (g := gb137) (o := .cells #[.int .i64 a1_0, .int .i64 a1_1] 45 (0, 0)) (by (with_reducible repeat (first | refine zn ?_ _ | refine zd ?_ | refine za ?_ _)); exact BK137.out)) : gb137 ≠ gb143)); have n11_ := zK ((by rw [hg]; exact Nat.ne_of_gt (blk_lt (g := gb137) (o := .cells #[.int .i64 a1_0, .int .i64 a1_1] 45 (0, 0)) (by (with_reducible repeat (first | refine zn ?_ _ | refine zd ?_ | refine za ?_ _)); exact BK137.out)) : gb143 ≠ gb137)); have n12_ := zK ((by rw [hg]; exact Nat.ne_of_lt (blk_lt (g := gb138) (o := .cells #[.int .i64 a2_0, .int .i64 a2_1] 45 (0, 0)) (by (with_reducible repeat (first | refine zn ?_ _ | refine zd ?_ | refine za ?_ _)); exact BK138.out)) : gb138 ≠ gb143)); have n13_ := zK ((by rw [hg]; exact Nat.ne_of_gt (blk_lt (g := gb138) (o := .cells #[.int .i64 a2_0, .int .i64 a2_1] 45 (0, 0)) (by (with_reducible repeat (first | refine zn ?_ _ | refine zd ?_ | refine za ?_ _)); exact BK138.out)) : gb143 ≠ gb138)); clear HO_17; clear BK136; clear BK137; clear BK138; clear HB; have HO_17 := n0_; have BK136 := n1_; have BK137 := n2_; have BK138 := n3_; have HB := n4_; have BK143 := n5_; have GW143 := n6_; have GE143 := n7_; have NB136_143 := n8_; have NB143_136 := n9_; have NB137_143 := n10_; have NB143_137 := n11_; have NB138_143 := n12_; have NB143_138 := n13_; clear n0_ n1_ n2_ n3_ n4_ n5_ n6_ n7_ n8_ n9_ n10_ n11_ n12_ n13_; clear hb hbox hg; have hnb37 := NB143_136.out; have hnc37 := NB136_143.out; have hnb38 := NB143_137.out; have hnc38 := NB137_143.out; have hnb39 := NB143_138.out; have hnc39 := NB138_143.out; have hcz40_0 : w36.cell? ⟨gb143, 0, none⟩ = some (.int .i64 0) := (zc BK143.out 0).trans rfl; have hcz40_1 : w36.cell? ⟨gb143, 1, none⟩ = some (.int .i64 0) := (zc BK143.out 1).trans rfl; have hfz40_0 := zf BK143.out 0; have hfz40_1 := zf BK143.out 1) | ((with_reducible refine gate_callee (f := 76) rfl ?_); refine goesL_ (some 24) rfl rfl Try.func76 (by kernel_rfl) rfl #[.agg #[.int .i64 ((rd_T45 y139 x19_1).f0), .int .i64 ((rd_T45 y139 x19_1).f1)]] rfl zL ?_; (with_reducible refine (impl_ScaleOk.calls ((rd_T45 y139 x19_1).f0) ((rd_T45 y139 x19_1).f1) false _ A19.out).mono ?_); rintro e w41 ⟨rfl, hb⟩; refine ⟨_, rfl, ?_⟩; have n0_ := zK (Kd.R_below (by (with_reducible repeat (first | apply Kd.R_alloc | apply Kd.R_drewN | apply Kd.R_drew)); exact (Kd.R_mono (Kd.R_far (p := ⟨gb143, 1, none⟩) (Kd.R_far (p := ⟨gb143, 0, none⟩) (Kd.R_mono HO_17.out (fun k_ hk => (⟨hk, hk.2⟩ : _ ∧ k_ ≠ gb143))) (fun _ hk => hk.2) (.int .i64 ((rd_T45 y139 x19_1).f0))) (fun _ hk => hk.2) (.int .i64 ((rd_T45 y139 x19_1).f1))) (fun _ h_ => h_.1))) hb); have n1_ := zK (zg (g := gb136) (o := .cells #[.int .i64 a0_0, .int .i64 a0_1] 45 (0, 0)) (by (with_reducible repeat (first | refine zn ?_ _ | refine zd ?_ | refine za ?_ _)); refine blk_far ?_ NB136_143.out _; (with_reducible repeat (first | refine zn ?_ _ | refine zd ?_ | refine za ?_ _)); refine blk_far ?_ NB136_143.out _; (with_reducible repeat (first | refine zn ?_ _ | refine zd ?_ | refine za ?_ _)); exact BK136.out) hb); have n2_ := zK (zg (g := gb137) (o := .cells #[.int .i64 a1_0, .int .i64 a1_1] 45 (0, 0)) (by (with_reducible repeat (first | refine zn ?_ _ | refine zd ?_ | refine za ?_ _)); refine blk_far ?_ NB137_143.out _; (with_reducible repeat (first | refine zn ?_ _ | refine zd ?_ | refine za ?_ _)); refine blk_far ?_ NB137_143.out _; (with_reducible repeat (first | refine zn ?_ _ | refine zd ?_ | refine za ?_ _)); exact BK137.out) hb); have n3_ := zK (zg (g := gb138) (o := .cells #[.int .i64 a2_0, .int .i64 a2_1] 45 (0, 0)) (by (with_reducible repeat (first | refine zn ?_ _ | refine zd ?_ | refine za ?_ _)); refine blk_far ?_ NB138_143.out _; (with_reducible repeat (first | refine zn ?_ _ | refine zd ?_ | refine za ?_ _)); refine blk_far ?_ NB138_143.out _; (with_reducible repeat (first | refine zn ?_ _ | refine zd ?_ | refine za ?_ _)); exact BK138.out) hb); have n4_ := zK (zg (g := gb143) (o := .cells #[.int .i64 ((rd_T45 y139 x19_1).f0), .int .i64 ((rd_T45 y139 x19_1).f1)] 45 (0, 0)) (by (with_reducible repeat (first | refine zn ?_ _ | refine zd ?_ | refine za ?_ _)); refine blk_put (cs := #[.int .i64 ((rd_T45 y139 x19_1).f0), .int .i64 0]) ?_ 1 _ rfl; (with_reducible repeat (first | refine zn ?_ _ | refine zd ?_ | refine za ?_ _)); refine blk_put (cs := #[.int .i64 0, .int .i64 0]) ?_ 0 _ rfl; (with_reducible repeat (first | refine zn ?_ _ | refine zd ?_ | refine za ?_ _)); exact BK143.out) hb); have n5_ := zK (zp zB hb); clear HO_17; clear BK136; clear BK137; clear BK138; clear BK143; clear HB; have HO_17 := n0_; have BK136 := n1_; have BK137 := n2_; have BK138 := n3_; have BK143 := n4_; have HB := n5_; clear n0_ n1_ n2_ n3_ n4_ n5_; (try clear hb); (try clear hb2); (try clear hk); (try clear hi)))
    go_ret3
    exact ⟨by first | rfl | (simp [errW_none, errW_some] <;> rfl) | (simp [*, errW_none, errW_some] <;> rfl), zB⟩
  subst c20
  have H1 : (if ((rd_T45 y139 x19_1).f0) > 16777216 then (some (0, 0, false)) else (impl_Factor.l0 k1 y139 (y139.length : Int) (wrap64 (x19_1 + 1)) a0_0 a0_1 a1_0 a1_1 a2_0 a2_1)) = some (r1, r2, r3) := by rw [if_pos rfl] at H; exact H
  clear H
  have H := H1
  clear H1
  by_cases c21 : ((rd_T45 y139 x19_1).f0) > 16777216
  · rw [if_pos c21] at H
    have c21b0 : decide (16777216 < ((rd_T45 y139 x19_1).f0)) = true := decide_eq_true c21
    clear c21
    simp only [Option.some.injEq, Prod.mk.injEq] at H
    obtain ⟨rfl, rfl, rfl⟩ := H
    have p142 : 0 ≤ (x19_1 : Int) := of_decide_eq_true zA
    have q142 : x19_1 < (y139.length : Int) := of_decide_eq_true zA
    obtain ⟨ad142, e142, hx142_0, hx142_1⟩ := at_T45 (Kd.R_reads' HO_17.out).2.2 x19_1 p142 q142
    cases e142
    replace p142 := eq_true p142
    replace q142 := eq_true q142
    go_wp2_with (first | ((with_reducible refine gate_dst (N := 10) rfl ?_); refine box_event ?hg (N := 10) ?hd (cs := #[.int .i64 0, .int .i64 0]) (t := 45) ?hr ?_; (case hd => rfl); (case hg => rfl); (case hr => first | (go_simp; done) | (go_simp; rfl)); intro gb143 hg w22 hbox hb; have n0_ := zK (Kd.R_below (Kd.R_elderB (by (with_reducible repeat (first | apply Kd.R_alloc | apply Kd.R_drewN | apply Kd.R_drew)); exact HO_17.out) gb143 (Nat.le_of_eq hg.symm)) hb); have n1_ := zK (zg (g := gb136) (o := .cells #[.int .i64 a0_0, .int .i64 a0_1] 45 (0, 0)) (by (with_reducible repeat (first | refine zn ?_ _ | refine zd ?_ | refine za ?_ _)); exact BK136.out) hb); have n2_ := zK (zg (g := gb137) (o := .cells #[.int .i64 a1_0, .int .i64 a1_1] 45 (0, 0)) (by (with_reducible repeat (first | refine zn ?_ _ | refine zd ?_ | refine za ?_ _)); exact BK137.out) hb); have n3_ := zK (zg (g := gb138) (o := .cells #[.int .i64 a2_0, .int .i64 a2_1] 45 (0, 0)) (by (with_reducible repeat (first | refine zn ?_ _ | refine zd ?_ | refine za ?_ _)); exact BK138.out) hb); have n4_ := zK (zp zB hb); have n5_ := zK (hbox); have n6_ := zK ((by rw [hg]; exact (zz zB) : w.heap.size ≤ gb143)); have n7_ := zK ((by rw [hg]; exact (zz zB) : w.heap.size ≤ gb143)); have n8_ := zK ((by rw [hg]; exact Nat.ne_of_lt (blk_lt (g := gb136) (o := .cells #[.int .i64 a0_0, .int .i64 a0_1] 45 (0, 0)) (by (with_reducible repeat (first | refine zn ?_ _ | refine zd ?_ | refine za ?_ _)); exact BK136.out)) : gb136 ≠ gb143)); have n9_ := zK ((by rw [hg]; exact Nat.ne_of_gt (blk_lt (g := gb136) (o := .cells #[.int .i64 a0_0, .int .i64 a0_1] 45 (0, 0)) (by (with_reducible repeat (first | refine zn ?_ _ | refine zd ?_ | refine za ?_ _)); exact BK136.out)) : gb143 ≠ gb136)); have n10_ := zK ((by rw [hg]; exact Nat.ne_of_lt (blk_lt (g := gb137) (o := .cells #[.int .i64 a1_0, .int .i64 a1_1] 45 (0, 0)) (by (with_reducible repeat (first | refine zn ?_ _ | refine zd ?_ | refine za ?_ _)); exact BK137.out)) : gb137 ≠ gb143)); have n11_ := zK ((by rw [hg]; exact Nat.ne_of_gt (blk_lt (g := gb137) (o := .cells #[.int .i64 a1_0, .int .i64 a1_1] 45 (0, 0)) (by (with_reducible repeat (first | refine zn ?_ _ | refine zd ?_ | refine za ?_ _)); exact BK137.out)) : gb143 ≠ gb137)); have n12_ := zK ((by rw [hg]; exact Nat.ne_of_lt (blk_lt (g := gb138) (o := .cells #[.int .i64 a2_0, .int .i64 a2_1] 45 (0, 0)) (by (with_reducible repeat (first | refine zn ?_ _ | refine zd ?_ | refine za ?_ _)); exact BK138.out)) : gb138 ≠ gb143)); have n13_ := zK ((by rw [hg]; exact Nat.ne_of_gt (blk_lt (g := gb138) (o := .cells #[.int .i64 a2_0, .int .i64 a2_1] 45 (0, 0)) (by (with_reducible repeat (first | refine zn ?_ _ | refine zd ?_ | refine za ?_ _)); exact BK138.out)) : gb143 ≠ gb138)); clear HO_17; clear BK136; clear BK137; clear BK138; clear HB; have HO_17 := n0_; have BK136 := n1_; have BK137 := n2_; have BK138 := n3_; have HB := n4_; have BK143 := n5_; have GW143 := n6_; have GE143 := n7_; have NB136_143 := n8_; have NB143_136 := n9_; have NB137_143 := n10_; have NB143_137 := n11_; have NB138_143 := n12_; have NB143_138 := n13_; clear n0_ n1_ n2_ n3_ n4_ n5_ n6_ n7_ n8_ n9_ n10_ n11_ n12_ n13_; clear hb hbox hg; have hnb23 := NB143_136.out; have hnc23 := NB136_143.out; have hnb24 := NB143_137.out; have hnc24 := NB137_143.out; have hnb25 := NB143_138.out; have hnc25 := NB138_143.out; have hcz26_0 : w22.cell? ⟨gb143, 0, none⟩ = some (.int .i64 0) := (zc BK143.out 0).trans rfl; have hcz26_1 : w22.cell? ⟨gb143, 1, none⟩ = some (.int .i64 0) := (zc BK143.out 1).trans rfl; have hfz26_0 := zf BK143.out 0; have hfz26_1 := zf BK143.out 1) | ((with_reducible refine gate_callee (f := 76) rfl ?_); refine goesL_ (some 24) rfl rfl Try.func76 (by kernel_rfl) rfl #[.agg #[.int .i64 ((rd_T45 y139 x19_1).f0), .int .i64 ((rd_T45 y139 x19_1).f1)]] rfl zL ?_; (with_reducible refine (impl_ScaleOk.calls ((rd_T45 y139 x19_1).f0) ((rd_T45 y139 x19_1).f1) true _ A19.out).mono ?_); rintro e w27 ⟨rfl, hb⟩; refine ⟨_, rfl, ?_⟩; have n0_ := zK (Kd.R_below (by (with_reducible repeat (first | apply Kd.R_alloc | apply Kd.R_drewN | apply Kd.R_drew)); exact (Kd.R_mono (Kd.R_far (p := ⟨gb143, 1, none⟩) (Kd.R_far (p := ⟨gb143, 0, none⟩) (Kd.R_mono HO_17.out (fun k_ hk => (⟨hk, hk.2⟩ : _ ∧ k_ ≠ gb143))) (fun _ hk => hk.2) (.int .i64 ((rd_T45 y139 x19_1).f0))) (fun _ hk => hk.2) (.int .i64 ((rd_T45 y139 x19_1).f1))) (fun _ h_ => h_.1))) hb); have n1_ := zK (zg (g := gb136) (o := .cells #[.int .i64 a0_0, .int .i64 a0_1] 45 (0, 0)) (by (with_reducible repeat (first | refine zn ?_ _ | refine zd ?_ | refine za ?_ _)); refine blk_far ?_ NB136_143.out _; (with_reducible repeat (first | refine zn ?_ _ | refine zd ?_ | refine za ?_ _)); refine blk_far ?_ NB136_143.out _; (with_reducible repeat (first | refine zn ?_ _ | refine zd ?_ | refine za ?_ _)); exact BK136.out) hb); have n2_ := zK (zg (g := gb137) (o := .cells #[.int .i64 a1_0, .int .i64 a1_1] 45 (0, 0)) (by (with_reducible repeat (first | refine zn ?_ _ | refine zd ?_ | refine za ?_ _)); refine blk_far ?_ NB137_143.out _; (with_reducible repeat (first | refine zn ?_ _ | refine zd ?_ | refine za ?_ _)); refine blk_far ?_ NB137_143.out _; (with_reducible repeat (first | refine zn ?_ _ | refine zd ?_ | refine za ?_ _)); exact BK137.out) hb); have n3_ := zK (zg (g := gb138) (o := .cells #[.int .i64 a2_0, .int .i64 a2_1] 45 (0, 0)) (by (with_reducible repeat (first | refine zn ?_ _ | refine zd ?_ | refine za ?_ _)); refine blk_far ?_ NB138_143.out _; (with_reducible repeat (first | refine zn ?_ _ | refine zd ?_ | refine za ?_ _)); refine blk_far ?_ NB138_143.out _; (with_reducible repeat (first | refine zn ?_ _ | refine zd ?_ | refine za ?_ _)); exact BK138.out) hb); have n4_ := zK (zg (g := gb143) (o := .cells #[.int .i64 ((rd_T45 y139 x19_1).f0), .int .i64 ((rd_T45 y139 x19_1).f1)] 45 (0, 0)) (by (with_reducible repeat (first | refine zn ?_ _ | refine zd ?_ | refine za ?_ _)); refine blk_put (cs := #[.int .i64 ((rd_T45 y139 x19_1).f0), .int .i64 0]) ?_ 1 _ rfl; (with_reducible repeat (first | refine zn ?_ _ | refine zd ?_ | refine za ?_ _)); refine blk_put (cs := #[.int .i64 0, .int .i64 0]) ?_ 0 _ rfl; (with_reducible repeat (first | refine zn ?_ _ | refine zd ?_ | refine za ?_ _)); exact BK143.out) hb); have n5_ := zK (zp zB hb); clear HO_17; clear BK136; clear BK137; clear BK138; clear BK143; clear HB; have HO_17 := n0_; have BK136 := n1_; have BK137 := n2_; have BK138 := n3_; have BK143 := n4_; have HB := n5_; clear n0_ n1_ n2_ n3_ n4_ n5_; (try clear hb); (try clear hb2); (try clear hk); (try clear hi); have hcz28_0 : w27.cell? ⟨gb143, 0, none⟩ = some (.int .i64 ((rd_T45 y139 x19_1).f0)) := (zc BK143.out 0).trans rfl; have hcz28_1 : w27.cell? ⟨gb143, 1, none⟩ = some (.int .i64 ((rd_T45 y139 x19_1).f1)) := (zc BK143.out 1).trans rfl; have hfz28_0 := zf BK143.out 0; have hfz28_1 := zf BK143.out 1))
    go_ret3
    exact ⟨by first | rfl | (simp [errW_none, errW_some] <;> rfl) | (simp [*, errW_none, errW_some] <;> rfl), zB⟩
  rw [if_neg c21] at H
  have c21b0 : decide (16777216 < ((rd_T45 y139 x19_1).f0)) = false := decide_eq_false c21
  clear c21
  have H' := zK H
  clear H
  have p142 : 0 ≤ (x19_1 : Int) := of_decide_eq_true zA
  have q142 : x19_1 < (y139.length : Int) := of_decide_eq_true zA
  obtain ⟨ad142, e142, hx142_0, hx142_1⟩ := at_T45 (Kd.R_reads' HO_17.out).2.2 x19_1 p142 q142
  cases e142
  replace p142 := eq_true p142
  replace q142 := eq_true q142
  go_wp2_with (first | ((with_reducible refine gate_dst (N := 10) rfl ?_); refine box_event ?hg (N := 10) ?hd (cs := #[.int .i64 0, .int .i64 0]) (t := 45) ?hr ?_; (case hd => rfl); (case hg => rfl); (case hr => first | (go_simp; done) | (go_simp; rfl)); intro gb143 hg w29 hbox hb; have n0_ := zK (Kd.R_below (Kd.R_elderB (by (with_reducible repeat (first | apply Kd.R_alloc | apply Kd.R_drewN | apply Kd.R_drew)); exact HO_17.out) gb143 (Nat.le_of_eq hg.symm)) hb); have n1_ := zK (zg (g := gb136) (o := .cells #[.int .i64 a0_0, .int .i64 a0_1] 45 (0, 0)) (by (with_reducible repeat (first | refine zn ?_ _ | refine zd ?_ | refine za ?_ _)); exact BK136.out) hb); have n2_ := zK (zg (g := gb137) (o := .cells #[.int .i64 a1_0, .int .i64 a1_1] 45 (0, 0)) (by (with_reducible repeat (first | refine zn ?_ _ | refine zd ?_ | refine za ?_ _)); exact BK137.out) hb); have n3_ := zK (zg (g := gb138) (o := .cells #[.int .i64 a2_0, .int .i64 a2_1] 45 (0, 0)) (by (with_reducible repeat (first | refine zn ?_ _ | refine zd ?_ | refine za ?_ _)); exact BK138.out) hb); have n4_ := zK (zp zB hb); have n5_ := zK (hbox); have n6_ := zK ((by rw [hg]; exact (zz zB) : w.heap.size ≤ gb143)); have n7_ := zK ((by rw [hg]; exact (zz zB) : w.heap.size ≤ gb143)); have n8_ := zK ((by rw [hg]; exact Nat.ne_of_lt (blk_lt (g := gb136) (o := .cells #[.int .i64 a0_0, .int .i64 a0_1] 45 (0, 0)) (by (with_reducible repeat (first | refine zn ?_ _ | refine zd ?_ | refine za ?_ _)); exact BK136.out)) : gb136 ≠ gb143)); have n9_ := zK ((by rw [hg]; exact Nat.ne_of_gt (blk_lt (g := gb136) (o := .cells #[.int .i64 a0_0, .int .i64 a0_1] 45 (0, 0)) (by (with_reducible repeat (first | refine zn ?_ _ | refine zd ?_ | refine za ?_ _)); exact BK136.out)) : gb143 ≠ gb136)); have n10_ := zK ((by rw [hg]; exact Nat.ne_of_lt (blk_lt (g := gb137) (o := .cells #[.int .i64 a1_0, .int .i64 a1_1] 45 (0, 0)) (by (with_reducible repeat (first | refine zn ?_ _ | refine zd ?_ | refine za ?_ _)); exact BK137.out)) : gb137 ≠ gb143)); have n11_ := zK ((by rw [hg]; exact Nat.ne_of_gt (blk_lt (g := gb137) (o := .cells #[.int .i64 a1_0, .int .i64 a1_1] 45 (0, 0)) (by (with_reducible repeat (first | refine zn ?_ _ | refine zd ?_ | refine za ?_ _)); exact BK137.out)) : gb143 ≠ gb137)); have n12_ := zK ((by rw [hg]; exact Nat.ne_of_lt (blk_lt (g := gb138) (o := .cells #[.int .i64 a2_0, .int .i64 a2_1] 45 (0, 0)) (by (with_reducible repeat (first | refine zn ?_ _ | refine zd ?_ | refine za ?_ _)); exact BK138.out)) : gb138 ≠ gb143)); have n13_ := zK ((by rw [hg]; exact Nat.ne_of_gt (blk_lt (g := gb138) (o := .cells #[.int .i64 a2_0, .int .i64 a2_1] 45 (0, 0)) (by (with_reducible repeat (first | refine zn ?_ _ | refine zd ?_ | refine za ?_ _)); exact BK138.out)) : gb143 ≠ gb138)); clear HO_17; clear BK136; clear BK137; clear BK138; clear HB; have HO_17 := n0_; have BK136 := n1_; have BK137 := n2_; have BK138 := n3_; have HB := n4_; have BK143 := n5_; have GW143 := n6_; have GE143 := n7_; have NB136_143 := n8_; have NB143_136 := n9_; have NB137_143 := n10_; have NB143_137 := n11_; have NB138_143 := n12_; have NB143_138 := n13_; clear n0_ n1_ n2_ n3_ n4_ n5_ n6_ n7_ n8_ n9_ n10_ n11_ n12_ n13_; clear hb hbox hg; have hnb30 := NB143_136.out; have hnc30 := NB136_143.out; have hnb31 := NB143_137.out; have hnc31 := NB137_143.out; have hnb32 := NB143_138.out; have hnc32 := NB138_143.out; have hcz33_0 : w29.cell? ⟨gb143, 0, none⟩ = some (.int .i64 0) := (zc BK143.out 0).trans rfl; have hcz33_1 : w29.cell? ⟨gb143, 1, none⟩ = some (.int .i64 0) := (zc BK143.out 1).trans rfl; have hfz33_0 := zf BK143.out 0; have hfz33_1 := zf BK143.out 1) | ((with_reducible refine gate_callee (f := 76) rfl ?_); refine goesL_ (some 24) rfl rfl Try.func76 (by kernel_rfl) rfl #[.agg #[.int .i64 ((rd_T45 y139 x19_1).f0), .int .i64 ((rd_T45 y139 x19_1).f1)]] rfl zL ?_; (with_reducible refine (impl_ScaleOk.calls ((rd_T45 y139 x19_1).f0) ((rd_T45 y139 x19_1).f1) true _ A19.out).mono ?_); rintro e w34 ⟨rfl, hb⟩; refine ⟨_, rfl, ?_⟩; have n0_ := zK (Kd.R_below (by (with_reducible repeat (first | apply Kd.R_alloc | apply Kd.R_drewN | apply Kd.R_drew)); exact (Kd.R_mono (Kd.R_far (p := ⟨gb143, 1, none⟩) (Kd.R_far (p := ⟨gb143, 0, none⟩) (Kd.R_mono HO_17.out (fun k_ hk => (⟨hk, hk.2⟩ : _ ∧ k_ ≠ gb143))) (fun _ hk => hk.2) (.int .i64 ((rd_T45 y139 x19_1).f0))) (fun _ hk => hk.2) (.int .i64 ((rd_T45 y139 x19_1).f1))) (fun _ h_ => h_.1))) hb); have n1_ := zK (zg (g := gb136) (o := .cells #[.int .i64 a0_0, .int .i64 a0_1] 45 (0, 0)) (by (with_reducible repeat (first | refine zn ?_ _ | refine zd ?_ | refine za ?_ _)); refine blk_far ?_ NB136_143.out _; (with_reducible repeat (first | refine zn ?_ _ | refine zd ?_ | refine za ?_ _)); refine blk_far ?_ NB136_143.out _; (with_reducible repeat (first | refine zn ?_ _ | refine zd ?_ | refine za ?_ _)); exact BK136.out) hb); have n2_ := zK (zg (g := gb137) (o := .cells #[.int .i64 a1_0, .int .i64 a1_1] 45 (0, 0)) (by (with_reducible repeat (first | refine zn ?_ _ | refine zd ?_ | refine za ?_ _)); refine blk_far ?_ NB137_143.out _; (with_reducible repeat (first | refine zn ?_ _ | refine zd ?_ | refine za ?_ _)); refine blk_far ?_ NB137_143.out _; (with_reducible repeat (first | refine zn ?_ _ | refine zd ?_ | refine za ?_ _)); exact BK137.out) hb); have n3_ := zK (zg (g := gb138) (o := .cells #[.int .i64 a2_0, .int .i64 a2_1] 45 (0, 0)) (by (with_reducible repeat (first | refine zn ?_ _ | refine zd ?_ | refine za ?_ _)); refine blk_far ?_ NB138_143.out _; (with_reducible repeat (first | refine zn ?_ _ | refine zd ?_ | refine za ?_ _)); refine blk_far ?_ NB138_143.out _; (with_reducible repeat (first | refine zn ?_ _ | refine zd ?_ | refine za ?_ _)); exact BK138.out) hb); have n4_ := zK (zg (g := gb143) (o := .cells #[.int .i64 ((rd_T45 y139 x19_1).f0), .int .i64 ((rd_T45 y139 x19_1).f1)] 45 (0, 0)) (by (with_reducible repeat (first | refine zn ?_ _ | refine zd ?_ | refine za ?_ _)); refine blk_put (cs := #[.int .i64 ((rd_T45 y139 x19_1).f0), .int .i64 0]) ?_ 1 _ rfl; (with_reducible repeat (first | refine zn ?_ _ | refine zd ?_ | refine za ?_ _)); refine blk_put (cs := #[.int .i64 0, .int .i64 0]) ?_ 0 _ rfl; (with_reducible repeat (first | refine zn ?_ _ | refine zd ?_ | refine za ?_ _)); exact BK143.out) hb); have n5_ := zK (zp zB hb); clear HO_17; clear BK136; clear BK137; clear BK138; clear BK143; clear HB; have HO_17 := n0_; have BK136 := n1_; have BK137 := n2_; have BK138 := n3_; have BK143 := n4_; have HB := n5_; clear n0_ n1_ n2_ n3_ n4_ n5_; (try clear hb); (try clear hb2); (try clear hk); (try clear hi); have hcz35_0 : w34.cell? ⟨gb143, 0, none⟩ = some (.int .i64 ((rd_T45 y139 x19_1).f0)) := (zc BK143.out 0).trans rfl; have hcz35_1 : w34.cell? ⟨gb143, 1, none⟩ = some (.int .i64 ((rd_T45 y139 x19_1).f1)) := (zc BK143.out 1).trans rfl; have hfz35_0 := zf BK143.out 0; have hfz35_1 := zf BK143.out 1))
  go_roundg k1
  case measure => have := HK1.out; omega
  case rel => exact ⟨(wrap64 (x19_1 + 1)), zR, H', ⟨by have := HK1.out; omega⟩, ⟨by (with_reducible repeat (first | apply Kd.R_alloc | apply Kd.R_drewN | apply Kd.R_drew)); exact Kd.R_mono HO_17.out (fun _ hk => ⟨hk.1.1, ⟨hk.1.2.1, hk.1.2.2⟩⟩)⟩, ⟨by (with_reducible repeat (first | refine zn ?_ _ | refine zd ?_ | refine za ?_ _)); exact BK136.out⟩, ⟨by (with_reducible repeat (first | refine zn ?_ _ | refine zd ?_ | refine za ?_ _)); exact BK137.out⟩, ⟨by (with_reducible repeat (first | refine zn ?_ _ | refine zd ?_ | refine za ?_ _)); exact BK138.out⟩, ⟨zB⟩⟩

/-! ### impl_bytesOk: function 118 -/
def impl_bytesOk.l0 : Nat → List Int → List Int → Int → Int → Option (Bool)
  | 0, _, _, _, _ => none
  | k + 1, x0, x5, x6, x7 => if x7 < x6 then (if 0 ≤ x7 then (if x7 < (x5.length : Int) then ((impl_isByte.f (rd x5 x7)).bind fun t148 => (if t148 = true then (impl_bytesOk.l0 k x0 x5 x6 (wrap64 (x7 + 1))) else (some false))) else (none)) else (none)) else (some (decide ((x0.length : Int) ≤ 4096)))
def impl_bytesOk.f (k : Nat) (l0 : List Int) : Option (Bool) := impl_bytesOk.l0 k l0 l0 (l0.length : Int) 0
theorem impl_bytesOk.mono_l : ∀ k, (∀ y0 y1 y2 y3, LeO (impl_bytesOk.l0 k y0 y1 y2 y3) (impl_bytesOk.l0 (k + 1) y0 y1 y2 y3))
  | 0 => fun _ _ _ _ r h => by simp [impl_bytesOk.l0] at h
  | k + 1 => by
    have ih0 := impl_bytesOk.mono_l k
    · intro y0 y1 y2 y3
      unfold impl_bytesOk.l0
      repeat' first
      | (with_reducible exact ih0 _ _ _ _)
      | (with_reducible exact LeO.refl _)
      | (with_reducible exact LeO.none _)
      | (with_reducible refine LeO.ite ?_ ?_)
      | (with_reducible refine LeO.bind ?_ (fun _ => ?_))
      | exact ih0 _ _ _ _
      | exact LeO.none _
      | refine LeO.ite ?_ ?_
      | refine LeO.bind ?_ (fun _ => ?_)
theorem impl_bytesOk.mono : ∀ a0 k, LeO (impl_bytesOk.f k a0) (impl_bytesOk.f (k + 1) a0) := by
  intro a0 k
  have ih0 := impl_bytesOk.mono_l k
  unfold impl_bytesOk.f
  repeat' first
      | (with_reducible exact ih0 _ _ _ _)
      | (with_reducible exact LeO.refl _)
      | (with_reducible exact LeO.none _)
      | (with_reducible refine LeO.ite ?_ ?_)
      | (with_reducible refine LeO.bind ?_ (fun _ => ?_))
      | exact ih0 _ _ _ _
      | exact LeO.none _
      | refine LeO.ite ?_ ?_
      | refine LeO.bind ?_ (fun _ => ?_)
set_option maxHeartbeats 8000000 in
set_option maxRecDepth 100000 in
theorem impl_bytesOk.calls (k : Nat) (A0 : Option Addr) (c0 : Nat) (l0 : List Int) (r : Bool) (w : World) (hr0 : Kd.C (Kd.int .i64) w A0 l0.length l0) (hc0 : l0.length ≤ c0) (h : impl_bytesOk.f k l0 = some r) :
    Calls Try.prog 118 #[.slice A0 l0.length c0] w fun e w' => e = .returned (.bool r) ∧ Drawn0 w w' := by
  have HR0 := zK hr0
  have HC0 := zK hc0
  clear hr0 hc0
  have H : (impl_bytesOk.l0 k l0 l0 (l0.length : Int) 0) = some r := h
  clear h
  have H' := zK H
  clear H
  go_enter Try.func118, Try.ntmps118
  go_wp2
  go_loopg [7] k (fun kq v7 w' => ∃ (x7_1 : Int), v7 = .int .i64 x7_1 ∧ Aside0 (impl_bytesOk.l0 kq l0 l0 (l0.length : Int) x7_1 = some r) ∧ Aside0 (kq ≤ k) ∧ Drawn0 w w')
  case atStart => exact ⟨(0), zR, H', ⟨Nat.le_refl _⟩, zD⟩
  clear H'
  try clear c1
  obtain ⟨x7_1, rfl, HA, HK1, ⟨m1, rfl⟩⟩ := hrel
  rcases gk with _ | k1
  · exact absurd HA.out (by simp [impl_bytesOk.l0])
  have H := HA.out
  clear HA
  simp only [impl_bytesOk.l0] at H
  by_cases c2 : x7_1 < (l0.length : Int)
  rotate_left
  · rw [if_neg c2] at H
    have c2b0 : decide (x7_1 < (l0.length : Int)) = false := decide_eq_false c2
    clear c2
    obtain rfl := Option.some.inj H
    go_wp2
    go_ret
    exact ⟨zR, zD⟩
  rw [if_pos c2] at H
  have c2b0 : decide (x7_1 < (l0.length : Int)) = true := decide_eq_true c2
  clear c2
  by_cases c3 : 0 ≤ x7_1
  rotate_left
  · rw [if_neg c3] at H
    exact absurd H (by simp)
  rw [if_pos c3] at H
  have c3b0 : decide (0 ≤ x7_1) = true := decide_eq_true c3
  clear c3
  by_cases c4 : x7_1 < (l0.length : Int)
  rotate_left
  · rw [if_neg c4] at H
    exact absurd H (by simp)
  rw [if_pos c4] at H
  have c4b0 : decide (x7_1 < (l0.length : Int)) = true := decide_eq_true c4
  clear c4
  replace H := Option.bind_eq_some_iff.mp H
  obtain ⟨t148, A50, H⟩ := H
  replace H : (if t148 = true then (impl_bytesOk.l0 k1 l0 l0 (l0.length : Int) (wrap64 (x7_1 + 1))) else (some false)) = some r := H
  have A5 := zK A50
  clear A50
  by_cases c6 : t148 = true
  rotate_left
  · replace c6 := Bool.eq_false_iff.mpr c6
    subst c6
    have H1 : (some false) = some r := by rw [if_neg (show ¬ (false = true) by decide)] at H; exact H
    clear H
    have H := H1
    clear H1
    obtain rfl := Option.some.inj H
    have p147 : 0 ≤ (x7_1 : Int) := of_decide_eq_true zA
    have q147 : x7_1 < (l0.length : Int) := of_decide_eq_true zA
    obtain ⟨ad147, e147, hx147_0⟩ := Kd.at_int HR0.out x7_1 p147 q147
    cases e147
    replace p147 := eq_true p147
    replace q147 := eq_true q147
    go_wp2_with (first | ((with_reducible refine gate_callee (f := 66) rfl ?_); refine goesL_ (some 12) rfl rfl Try.func66 (by kernel_rfl) rfl #[.int .i64 (rd l0 x7_1)] rfl zL ?_; (with_reducible refine (impl_isByte.calls (rd l0 x7_1) false _ A5.out).mono ?_); rintro e w' ⟨rfl, ⟨nd, rfl⟩⟩; refine ⟨_, rfl, ?_⟩))
    go_ret
    exact ⟨zR, zD⟩
  subst c6
  have H1 : (impl_bytesOk.l0 k1 l0 l0 (l0.length : Int) (wrap64 (x7_1 + 1))) = some r := by rw [if_pos rfl] at H; exact H
  clear H
  have H := H1
  clear H1
  have H' := zK H
  clear H
  have p147 : 0 ≤ (x7_1 : Int) := of_decide_eq_true zA
  have q147 : x7_1 < (l0.length : Int) := of_decide_eq_true zA
  obtain ⟨ad147, e147, hx147_0⟩ := Kd.at_int HR0.out x7_1 p147 q147
  cases e147
  replace p147 := eq_true p147
  replace q147 := eq_true q147
  go_wp2_with (first | ((with_reducible refine gate_callee (f := 66) rfl ?_); refine goesL_ (some 12) rfl rfl Try.func66 (by kernel_rfl) rfl #[.int .i64 (rd l0 x7_1)] rfl zL ?_; (with_reducible refine (impl_isByte.calls (rd l0 x7_1) true _ A5.out).mono ?_); rintro e w' ⟨rfl, ⟨nd, rfl⟩⟩; refine ⟨_, rfl, ?_⟩))
  go_roundg k1
  case measure => have := HK1.out; omega
  case rel => exact ⟨(wrap64 (x7_1 + 1)), zR, H', ⟨by have := HK1.out; omega⟩, zD⟩

/-! ### impl_DotBytes: function 67 -/
mutual
def impl_DotBytes.j0 : Nat → List Int → List Int → Bool → Int → Int → Int → Int → Option (Int)
  | 0, _, _, _, _, _, _, _ => none
  | k + 1, x2, x3, x36, x150000, x150001, x151000, x151001 => if x36 = true then (some 0) else (impl_DotBytes.l0 k x3 0 x2 (x2.length : Int) 0 x150000 x150001 x151000 x151001)
def impl_DotBytes.l0 : Nat → List Int → Int → List Int → Int → Int → Int → Int → Int → Int → Option (Int)
  | 0, _, _, _, _, _, _, _, _, _ => none
  | k + 1, x3, x9, x37, x38, x39, x150000, x150001, x151000, x151001 => if x39 < x38 then (if 0 ≤ x39 then (if x39 < (x37.length : Int) then (if x39 < (x3.length : Int) then (impl_DotBytes.l0 k x3 (wrap64 (x9 + (wrap64 ((wrap64 ((rd x37 x39) - x150001)) * (wrap64 ((rd x3 x39) - x151001)))))) x37 x38 (wrap64 (x39 + 1)) x150000 x150001 x151000 x151001) else (none)) else (none)) else (none)) else (some x9)
end
def impl_DotBytes.f (k : Nat) (a0_0 : Int) (a0_1 : Int) (a1_0 : Int) (a1_1 : Int) (l2 : List Int) (l3 : List Int) : Option (Int) := (impl_ScaleOk.f a0_0 a0_1).bind fun t151 => (if t151 = true then ((impl_ScaleOk.f a1_0 a1_1).bind fun t152 => (if t152 = true then (if (l2.length : Int) = (l3.length : Int) then ((impl_bytesOk.f k l2).bind fun t153 => (if t153 = true then ((impl_bytesOk.f k l3).bind fun t154 => (impl_DotBytes.j0 k l2 l3 (!t154) a0_0 a0_1 a1_0 a1_1)) else (impl_DotBytes.j0 k l2 l3 true a0_0 a0_1 a1_0 a1_1))) else (impl_DotBytes.j0 k l2 l3 true a0_0 a0_1 a1_0 a1_1)) else (impl_DotBytes.j0 k l2 l3 true a0_0 a0_1 a1_0 a1_1))) else (impl_DotBytes.j0 k l2 l3 true a0_0 a0_1 a1_0 a1_1))
theorem impl_DotBytes.mono_l : ∀ k, (∀ y0 y1 y2 y3 y4 y5 y6, LeO (impl_DotBytes.j0 k y0 y1 y2 y3 y4 y5 y6) (impl_DotBytes.j0 (k + 1) y0 y1 y2 y3 y4 y5 y6)) ∧ (∀ y0 y1 y2 y3 y4 y5 y6 y7 y8, LeO (impl_DotBytes.l0 k y0 y1 y2 y3 y4 y5 y6 y7 y8) (impl_DotBytes.l0 (k + 1) y0 y1 y2 y3 y4 y5 y6 y7 y8))
  | 0 => ⟨fun _ _ _ _ _ _ _ r h => by simp [impl_DotBytes.j0] at h, fun _ _ _ _ _ _ _ _ _ r h => by simp [impl_DotBytes.l0] at h⟩
  | k + 1 => by
    obtain ⟨ih0, ih1⟩ := impl_DotBytes.mono_l k
    refine ⟨?_, ?_⟩
    · intro y0 y1 y2 y3 y4 y5 y6
      unfold impl_DotBytes.j0
      repeat' first
      | (with_reducible exact ih0 _ _ _ _ _ _ _)
      | (with_reducible exact ih1 _ _ _ _ _ _ _ _ _)
      | (with_reducible exact impl_bytesOk.mono _ _)
      | (with_reducible exact LeO.refl _)
      | (with_reducible exact LeO.none _)
      | (with_reducible refine LeO.ite ?_ ?_)
      | (with_reducible refine LeO.bind ?_ (fun _ => ?_))
      | exact ih0 _ _ _ _ _ _ _
      | exact ih1 _ _ _ _ _ _ _ _ _
      | exact impl_bytesOk.mono _ _
      | exact LeO.none _
      | refine LeO.ite ?_ ?_
      | refine LeO.bind ?_ (fun _ => ?_)
    · intro y0 y1 y2 y3 y4 y5 y6 y7 y8
      unfold impl_DotBytes.l0
      repeat' first
      | (with_reducible exact ih0 _ _ _ _ _ _ _)
      | (with_reducible exact ih1 _ _ _ _ _ _ _ _ _)
      | (with_reducible exact impl_bytesOk.mono _ _)
      | (with_reducible exact LeO.refl _)
      | (with_reducible exact LeO.none _)
      | (with_reducible refine LeO.ite ?_ ?_)
      | (with_reducible refine LeO.bind ?_ (fun _ => ?_))
      | exact ih0 _ _ _ _ _ _ _
      | exact ih1 _ _ _ _ _ _ _ _ _
      | exact impl_bytesOk.mono _ _
      | exact LeO.none _
      | refine LeO.ite ?_ ?_
      | refine LeO.bind ?_ (fun _ => ?_)
theorem impl_DotBytes.mono : ∀ a0 a1 a2 a3 a4 a5 k, LeO (impl_DotBytes.f k a0 a1 a2 a3 a4 a5) (impl_DotBytes.f (k + 1) a0 a1 a2 a3 a4 a5) := by
  intro a0 a1 a2 a3 a4 a5 k
  obtain ⟨ih0, ih1⟩ := impl_DotBytes.mono_l k
  unfold impl_DotBytes.f
  repeat' first
      | (with_reducible exact ih0 _ _ _ _ _ _ _)
      | (with_reducible exact ih1 _ _ _ _ _ _ _ _ _)
      | (with_reducible exact impl_bytesOk.mono _ _)
      | (with_reducible exact LeO.refl _)
      | (with_reducible exact LeO.none _)
      | (with_reducible refine LeO.ite ?_ ?_)
      | (with_reducible refine LeO.bind ?_ (fun _ => ?_))
      | exact ih0 _ _ _ _ _ _ _
      | exact ih1 _ _ _ _ _ _ _ _ _
      | exact impl_bytesOk.mono _ _
      | exact LeO.none _
      | refine LeO.ite ?_ ?_
      | refine LeO.bind ?_ (fun _ => ?_)
set_option maxHeartbeats 8000000 in
set_option maxRecDepth 100000 in
theorem impl_DotBytes.calls (k : Nat) (a0_0 : Int) (a0_1 : Int) (a1_0 : Int) (a1_1 : Int) (A2 : Option Addr) (c2 : Nat) (l2 : List Int) (A3 : Option Addr) (c3 : Nat) (l3 : List Int) (r : Int) (w : World) (hr2 : Kd.C (Kd.int .i64) w A2 l2.length l2) (hc2 : l2.length ≤ c2) (hr3 : Kd.C (Kd.int .i64) w A3 l3.length l3) (hc3 : l3.length ≤ c3) (h : impl_DotBytes.f k a0_0 a0_1 a1_0 a1_1 l2 l3 = some r) :
    Calls Try.prog 67 #[.agg #[.int .i64 a0_0, .int .i64 a0_1], .agg #[.int .i64 a1_0, .int .i64 a1_1], .slice A2 l2.length c2, .slice A3 l3.length c3] w fun e w' => e = .returned (.int .i64 r) ∧ Below w.heap.size w w' := by
  have hu45 := Try.underlying45
  have HR2 := zK hr2
  have HC2 := zK hc2
  clear hr2 hc2
  have HR3 := zK hr3
  have HC3 := zK hc3
  clear hr3 hc3
  have HB := zK (Below.refl w.heap.size w)
  have H : ((impl_ScaleOk.f a0_0 a0_1).bind fun t151 => (if t151 = true then ((impl_ScaleOk.f a1_0 a1_1).bind fun t152 => (if t152 = true then (if (l2.length : Int) = (l3.length : Int) then ((impl_bytesOk.f k l2).bind fun t153 => (if t153 = true then ((impl_bytesOk.f k l3).bind fun t154 => (impl_DotBytes.j0 k l2 l3 (!t154) a0_0 a0_1 a1_0 a1_1)) else (impl_DotBytes.j0 k l2 l3 true a0_0 a0_1 a1_0 a1_1))) else (impl_DotBytes.j0 k l2 l3 true a0_0 a0_1 a1_0 a1_1)) else (impl_DotBytes.j0 k l2 l3 true a0_0 a0_1 a1_0 a1_1))) else (impl_DotBytes.j0 k l2 l3 true a0_0 a0_1 a1_0 a1_1))) = some r := h
  clear h
  have HC5 := zK H
  clear H
  go_enter Try.func67, Try.ntmps67
  go_upto_region 1 with (first | ((with_reducible refine gate_dst (N := 4) rfl ?_); (try (refine gate_guard (by rfl) ?_; dsimp only)); refine box_event ?hg (N := 4) ?hd (cs := #[.int .i64 a0_0, .int .i64 a0_1]) (t := 45) ?hr ?_; (case hd => rfl); (case hg => rfl); (case hr => first | (go_simp; done) | (go_simp; rfl)); intro gb149 hg w6 hbox hb; have n0_ := zK (zp zB hb); have n1_ := zK (hbox); have n2_ := zK ((by rw [hg]; exact (zz zB) : w.heap.size ≤ gb149)); have n3_ := zK ((by rw [hg]; exact (zz zB) : w.heap.size ≤ gb149)); clear HB; have HB := n0_; have BK149 := n1_; have GW149 := n2_; have GE149 := n3_; clear n0_ n1_ n2_ n3_; clear hb hbox hg) | ((with_reducible refine gate_dst (N := 5) rfl ?_); (try (refine gate_guard (by rfl) ?_; dsimp only)); refine box_event ?hg (N := 5) ?hd (cs := #[.int .i64 a1_0, .int .i64 a1_1]) (t := 45) ?hr ?_; (case hd => rfl); (case hg => rfl); (case hr => first | (go_simp; done) | (go_simp; rfl)); intro gb150 hg w7 hbox hb; have n0_ := zK (zg (g := gb149) (o := .cells #[.int .i64 a0_0, .int .i64 a0_1] 45 (0, 0)) (by (with_reducible repeat (first | refine zn ?_ _ | refine zd ?_ | refine za ?_ _)); exact BK149.out) hb); have n1_ := zK (zp zB hb); have n2_ := zK (hbox); have n3_ := zK ((by rw [hg]; exact (zz zB) : w.heap.size ≤ gb150)); have n4_ := zK ((by rw [hg]; exact (zz zB) : w.heap.size ≤ gb150)); have n5_ := zK ((by rw [hg]; exact Nat.ne_of_lt (blk_lt (g := gb149) (o := .cells #[.int .i64 a0_0, .int .i64 a0_1] 45 (0, 0)) (by (with_reducible repeat (first | refine zn ?_ _ | refine zd ?_ | refine za ?_ _)); exact BK149.out)) : gb149 ≠ gb150)); have n6_ := zK ((by rw [hg]; exact Nat.ne_of_gt (blk_lt (g := gb149) (o := .cells #[.int .i64 a0_0, .int .i64 a0_1] 45 (0, 0)) (by (with_reducible repeat (first | refine zn ?_ _ | refine zd ?_ | refine za ?_ _)); exact BK149.out)) : gb150 ≠ gb149)); clear BK149; clear HB; have BK149 := n0_; have HB := n1_; have BK150 := n2_; have GW150 := n3_; have GE150 := n4_; have NB149_150 := n5_; have NB150_149 := n6_; clear n0_ n1_ n2_ n3_ n4_ n5_ n6_; clear hb hbox hg))
  repeat (go_quiet (first | ((with_reducible refine gate_dst (N := 4) rfl ?_); (try (refine gate_guard (by rfl) ?_; dsimp only)); refine box_event ?hg (N := 4) ?hd (cs := #[.int .i64 a0_0, .int .i64 a0_1]) (t := 45) ?hr ?_; (case hd => rfl); (case hg => rfl); (case hr => first | (go_simp; done) | (go_simp; rfl)); intro gb149 hg w6 hbox hb; have n0_ := zK (zp zB hb); have n1_ := zK (hbox); have n2_ := zK ((by rw [hg]; exact (zz zB) : w.heap.size ≤ gb149)); have n3_ := zK ((by rw [hg]; exact (zz zB) : w.heap.size ≤ gb149)); clear HB; have HB := n0_; have BK149 := n1_; have GW149 := n2_; have GE149 := n3_; clear n0_ n1_ n2_ n3_; clear hb hbox hg) | ((with_reducible refine gate_dst (N := 5) rfl ?_); (try (refine gate_guard (by rfl) ?_; dsimp only)); refine box_event ?hg (N := 5) ?hd (cs := #[.int .i64 a1_0, .int .i64 a1_1]) (t := 45) ?hr ?_; (case hd => rfl); (case hg => rfl); (case hr => first | (go_simp; done) | (go_simp; rfl)); intro gb150 hg w7 hbox hb; have n0_ := zK (zg (g := gb149) (o := .cells #[.int .i64 a0_0, .int .i64 a0_1] 45 (0, 0)) (by (with_reducible repeat (first | refine zn ?_ _ | refine zd ?_ | refine za ?_ _)); exact BK149.out) hb); have n1_ := zK (zp zB hb); have n2_ := zK (hbox); have n3_ := zK ((by rw [hg]; exact (zz zB) : w.heap.size ≤ gb150)); have n4_ := zK ((by rw [hg]; exact (zz zB) : w.heap.size ≤ gb150)); have n5_ := zK ((by rw [hg]; exact Nat.ne_of_lt (blk_lt (g := gb149) (o := .cells #[.int .i64 a0_0, .int .i64 a0_1] 45 (0, 0)) (by (with_reducible repeat (first | refine zn ?_ _ | refine zd ?_ | refine za ?_ _)); exact BK149.out)) : gb149 ≠ gb150)); have n6_ := zK ((by rw [hg]; exact Nat.ne_of_gt (blk_lt (g := gb149) (o := .cells #[.int .i64 a0_0, .int .i64 a0_1] 45 (0, 0)) (by (with_reducible repeat (first | refine zn ?_ _ | refine zd ?_ | refine za ?_ _)); exact BK149.out)) : gb150 ≠ gb149)); clear BK149; clear HB; have BK149 := n0_; have HB := n1_; have BK150 := n2_; have GW150 := n3_; have GE150 := n4_; have NB149_150 := n5_; have NB150_149 := n6_; clear n0_ n1_ n2_ n3_ n4_ n5_ n6_; clear hb hbox hg)); go_upto_region 1 with (first | ((with_reducible refine gate_dst (N := 4) rfl ?_); (try (refine gate_guard (by rfl) ?_; dsimp only)); refine box_event ?hg (N := 4) ?hd (cs := #[.int .i64 a0_0, .int .i64 a0_1]) (t := 45) ?hr ?_; (case hd => rfl); (case hg => rfl); (case hr => first | (go_simp; done) | (go_simp; rfl)); intro gb149 hg w6 hbox hb; have n0_ := zK (zp zB hb); have n1_ := zK (hbox); have n2_ := zK ((by rw [hg]; exact (zz zB) : w.heap.size ≤ gb149)); have n3_ := zK ((by rw [hg]; exact (zz zB) : w.heap.size ≤ gb149)); clear HB; have HB := n0_; have BK149 := n1_; have GW149 := n2_; have GE149 := n3_; clear n0_ n1_ n2_ n3_; clear hb hbox hg) | ((with_reducible refine gate_dst (N := 5) rfl ?_); (try (refine gate_guard (by rfl) ?_; dsimp only)); refine box_event ?hg (N := 5) ?hd (cs := #[.int .i64 a1_0, .int .i64 a1_1]) (t := 45) ?hr ?_; (case hd => rfl); (case hg => rfl); (case hr => first | (go_simp; done) | (go_simp; rfl)); intro gb150 hg w7 hbox hb; have n0_ := zK (zg (g := gb149) (o := .cells #[.int .i64 a0_0, .int .i64 a0_1] 45 (0, 0)) (by (with_reducible repeat (first | refine zn ?_ _ | refine zd ?_ | refine za ?_ _)); exact BK149.out) hb); have n1_ := zK (zp zB hb); have n2_ := zK (hbox); have n3_ := zK ((by rw [hg]; exact (zz zB) : w.heap.size ≤ gb150)); have n4_ := zK ((by rw [hg]; exact (zz zB) : w.heap.size ≤ gb150)); have n5_ := zK ((by rw [hg]; exact Nat.ne_of_lt (blk_lt (g := gb149) (o := .cells #[.int .i64 a0_0, .int .i64 a0_1] 45 (0, 0)) (by (with_reducible repeat (first | refine zn ?_ _ | refine zd ?_ | refine za ?_ _)); exact BK149.out)) : gb149 ≠ gb150)); have n6_ := zK ((by rw [hg]; exact Nat.ne_of_gt (blk_lt (g := gb149) (o := .cells #[.int .i64 a0_0, .int .i64 a0_1] 45 (0, 0)) (by (with_reducible repeat (first | refine zn ?_ _ | refine zd ?_ | refine za ?_ _)); exact BK149.out)) : gb150 ≠ gb149)); clear BK149; clear HB; have BK149 := n0_; have HB := n1_; have BK150 := n2_; have GW150 := n3_; have GE150 := n4_; have NB149_150 := n5_; have NB150_149 := n6_; clear n0_ n1_ n2_ n3_ n4_ n5_ n6_; clear hb hbox hg)))
  (try simp only [Act.put, List.setIfInBounds_toArray, List.set_cons_zero, List.set_cons_succ])
  go_cut [36] (fun v36 wc => ∃ (kq : Nat) (x36_4 : Bool), v36 = .bool x36_4 ∧ Aside0 (impl_DotBytes.j0 kq l2 l3 x36_4 a0_0 a0_1 a1_0 a1_1 = some r) ∧ Aside0 (kq ≤ k) ∧ Aside0 (wc.heap[gb149]? = some (.cells #[.int .i64 a0_0, .int .i64 a0_1] 45 (0, 0))) ∧ Aside0 (wc.heap[gb150]? = some (.cells #[.int .i64 a1_0, .int .i64 a1_1] 45 (0, 0))) ∧ Aside0 (Below w.heap.size w wc))
  case first =>
   have H := HC5.out
   clear HC5
   replace H := Option.bind_eq_some_iff.mp H
   obtain ⟨t151, A80, H⟩ := H
   replace H : (if t151 = true then ((impl_ScaleOk.f a1_0 a1_1).bind fun t152 => (if t152 = true then (if (l2.length : Int) = (l3.length : Int) then ((impl_bytesOk.f k l2).bind fun t153 => (if t153 = true then ((impl_bytesOk.f k l3).bind fun t154 => (impl_DotBytes.j0 k l2 l3 (!t154) a0_0 a0_1 a1_0 a1_1)) else (impl_DotBytes.j0 k l2 l3 true a0_0 a0_1 a1_0 a1_1))) else (impl_DotBytes.j0 k l2 l3 true a0_0 a0_1 a1_0 a1_1)) else (impl_DotBytes.j0 k l2 l3 true a0_0 a0_1 a1_0 a1_1))) else (impl_DotBytes.j0 k l2 l3 true a0_0 a0_1 a1_0 a1_1)) = some r := H
   have A8 := zK A80
   clear A80
   by_cases c9 : t151 = true
   rotate_left
   · replace c9 := Bool.eq_false_iff.mpr c9
     subst c9
     have H1 : (impl_DotBytes.j0 k l2 l3 true a0_0 a0_1 a1_0 a1_1) = some r := by rw [if_neg (show ¬ (false = true) by decide)] at H; exact H
     clear H
     have H := H1
     clear H1
     have H' := zK H
     clear H
     have hnb36 := NB149_150.out
     have hnc36 := NB150_149.out
     have hcz37_0 : w7.cell? ⟨gb149, 0, none⟩ = some (.int .i64 a0_0) := (zc BK149.out 0).trans rfl
     have hcz37_1 : w7.cell? ⟨gb149, 1, none⟩ = some (.int .i64 a0_1) := (zc BK149.out 1).trans rfl
     have hfz37_0 := zf BK149.out 0
     have hfz37_1 := zf BK149.out 1
     go_wp2_with (first | (go_at_call 76; (with_reducible refine (impl_ScaleOk.calls a0_0 a0_1 false _ A8.out).mono ?_); rintro e w38 ⟨rfl, hb⟩; have n0_ := zK (zg (g := gb149) (o := .cells #[.int .i64 a0_0, .int .i64 a0_1] 45 (0, 0)) (by (with_reducible repeat (first | refine zn ?_ _ | refine zd ?_ | refine za ?_ _)); exact BK149.out) hb); have n1_ := zK (zg (g := gb150) (o := .cells #[.int .i64 a1_0, .int .i64 a1_1] 45 (0, 0)) (by (with_reducible repeat (first | refine zn ?_ _ | refine zd ?_ | refine za ?_ _)); exact BK150.out) hb); have n2_ := zK (zp zB hb); clear BK149; clear BK150; clear HB; have BK149 := n0_; have BK150 := n1_; have HB := n2_; clear n0_ n1_ n2_; (try clear hb); (try clear hb2); (try clear hk); (try clear hi)))
     repeat (go_quiet (first | (go_at_call 76; (with_reducible refine (impl_ScaleOk.calls a0_0 a0_1 false _ A8.out).mono ?_); rintro e w38 ⟨rfl, hb⟩; have n0_ := zK (zg (g := gb149) (o := .cells #[.int .i64 a0_0, .int .i64 a0_1] 45 (0, 0)) (by (with_reducible repeat (first | refine zn ?_ _ | refine zd ?_ | refine za ?_ _)); exact BK149.out) hb); have n1_ := zK (zg (g := gb150) (o := .cells #[.int .i64 a1_0, .int .i64 a1_1] 45 (0, 0)) (by (with_reducible repeat (first | refine zn ?_ _ | refine zd ?_ | refine za ?_ _)); exact BK150.out) hb); have n2_ := zK (zp zB hb); clear BK149; clear BK150; clear HB; have BK149 := n0_; have BK150 := n1_; have HB := n2_; clear n0_ n1_ n2_; (try clear hb); (try clear hb2); (try clear hk); (try clear hi))); try go_wp2_with (first | (go_at_call 76; (with_reducible refine (impl_ScaleOk.calls a0_0 a0_1 false _ A8.out).mono ?_); rintro e w38 ⟨rfl, hb⟩; have n0_ := zK (zg (g := gb149) (o := .cells #[.int .i64 a0_0, .int .i64 a0_1] 45 (0, 0)) (by (with_reducible repeat (first | refine zn ?_ _ | refine zd ?_ | refine za ?_ _)); exact BK149.out) hb); have n1_ := zK (zg (g := gb150) (o := .cells #[.int .i64 a1_0, .int .i64 a1_1] 45 (0, 0)) (by (with_reducible repeat (first | refine zn ?_ _ | refine zd ?_ | refine za ?_ _)); exact BK150.out) hb); have n2_ := zK (zp zB hb); clear BK149; clear BK150; clear HB; have BK149 := n0_; have BK150 := n1_; have HB := n2_; clear n0_ n1_ n2_; (try clear hb); (try clear hb2); (try clear hk); (try clear hi))))
     go_meet
     case rel => exact ⟨_, (true), zR, H', ⟨by first | omega | exact Nat.le_refl _⟩, ⟨by (with_reducible repeat (first | refine zn ?_ _ | refine zd ?_ | refine za ?_ _)); exact BK149.out⟩, ⟨by (with_reducible repeat (first | refine zn ?_ _ | refine zd ?_ | refine za ?_ _)); exact BK150.out⟩, ⟨zB⟩⟩
   subst c9
   have H1 : ((impl_ScaleOk.f a1_0 a1_1).bind fun t152 => (if t152 = true then (if (l2.length : Int) = (l3.length : Int) then ((impl_bytesOk.f k l2).bind fun t153 => (if t153 = true then ((impl_bytesOk.f k l3).bind fun t154 => (impl_DotBytes.j0 k l2 l3 (!t154) a0_0 a0_1 a1_0 a1_1)) else (impl_DotBytes.j0 k l2 l3 true a0_0 a0_1 a1_0 a1_1))) else (impl_DotBytes.j0 k l2 l3 true a0_0 a0_1 a1_0 a1_1)) else (impl_DotBytes.j0 k l2 l3 true a0_0 a0_1 a1_0 a1_1))) = some r := by rw [if_pos rfl] at H; exact H
   clear H
   have H := H1
   clear H1
   replace H := Option.bind_eq_some_iff.mp H
   obtain ⟨t152, A100, H⟩ := H
   replace H : (if t152 = true then (if (l2.length : Int) = (l3.length : Int) then ((impl_bytesOk.f k l2).bind fun t153 => (if t153 = true then ((impl_bytesOk.f k l3).bind fun t154 => (impl_DotBytes.j0 k l2 l3 (!t154) a0_0 a0_1 a1_0 a1_1)) else (impl_DotBytes.j0 k l2 l3 true a0_0 a0_1 a1_0 a1_1))) else (impl_DotBytes.j0 k l2 l3 true a0_0 a0_1 a1_0 a1_1)) else (impl_DotBytes.j0 k l2 l3 true a0_0 a0_1 a1_0 a1_1)) = some r := H
   have A10 := zK A100
   clear A100
   by_cases c11 : t152 = true
   rotate_left
   · replace c11 := Bool.eq_false_iff.mpr c11
     subst c11
     have H1 : (impl_DotBytes.j0 k l2 l3 true a0_0 a0_1 a1_0 a1_1) = some r := by rw [if_neg (show ¬ (false = true) by decide)] at H; exact H
     clear H
     have H := H1
     clear H1
     have H' := zK H
     clear H
     have hnb31 := NB149_150.out
     have hnc31 := NB150_149.out
     have hcz32_0 : w7.cell? ⟨gb149, 0, none⟩ = some (.int .i64 a0_0) := (zc BK149.out 0).trans rfl
     have hcz32_1 : w7.cell? ⟨gb149, 1, none⟩ = some (.int .i64 a0_1) := (zc BK149.out 1).trans rfl
     have hfz32_0 := zf BK149.out 0
     have hfz32_1 := zf BK149.out 1
     go_wp2_with (first | (go_at_call 76; (with_reducible refine (impl_ScaleOk.calls a0_0 a0_1 true _ A8.out).mono ?_); rintro e w33 ⟨rfl, hb⟩; have n0_ := zK (zg (g := gb149) (o := .cells #[.int .i64 a0_0, .int .i64 a0_1] 45 (0, 0)) (by (with_reducible repeat (first | refine zn ?_ _ | refine zd ?_ | refine za ?_ _)); exact BK149.out) hb); have n1_ := zK (zg (g := gb150) (o := .cells #[.int .i64 a1_0, .int .i64 a1_1] 45 (0, 0)) (by (with_reducible repeat (first | refine zn ?_ _ | refine zd ?_ | refine za ?_ _)); exact BK150.out) hb); have n2_ := zK (zp zB hb); clear BK149; clear BK150; clear HB; have BK149 := n0_; have BK150 := n1_; have HB := n2_; clear n0_ n1_ n2_; (try clear hb); (try clear hb2); (try clear hk); (try clear hi); have hcz34_0 : w33.cell? ⟨gb150, 0, none⟩ = some (.int .i64 a1_0) := (zc BK150.out 0).trans rfl; have hcz34_1 : w33.cell? ⟨gb150, 1, none⟩ = some (.int .i64 a1_1) := (zc BK150.out 1).trans rfl; have hfz34_0 := zf BK150.out 0; have hfz34_1 := zf BK150.out 1) | (go_at_call 76; (with_reducible refine (impl_ScaleOk.calls a1_0 a1_1 false _ A10.out).mono ?_); rintro e w35 ⟨rfl, hb⟩; have n0_ := zK (zg (g := gb149) (o := .cells #[.int .i64 a0_0, .int .i64 a0_1] 45 (0, 0)) (by (with_reducible repeat (first | refine zn ?_ _ | refine zd ?_ | refine za ?_ _)); exact BK149.out) hb); have n1_ := zK (zg (g := gb150) (o := .cells #[.int .i64 a1_0, .int .i64 a1_1] 45 (0, 0)) (by (with_reducible repeat (first | refine zn ?_ _ | refine zd ?_ | refine za ?_ _)); exact BK150.out) hb); have n2_ := zK (zp zB hb); clear BK149; clear BK150; clear HB; have BK149 := n0_; have BK150 := n1_; have HB := n2_; clear n0_ n1_ n2_; (try clear hb); (try clear hb2); (try clear hk); (try clear hi)))
     repeat (go_quiet (first | (go_at_call 76; (with_reducible refine (impl_ScaleOk.calls a0_0 a0_1 true _ A8.out).mono ?_); rintro e w33 ⟨rfl, hb⟩; have n0_ := zK (zg (g := gb149) (o := .cells #[.int .i64 a0_0, .int .i64 a0_1] 45 (0, 0)) (by (with_reducible repeat (first | refine zn ?_ _ | refine zd ?_ | refine za ?_ _)); exact BK149.out) hb); have n1_ := zK (zg (g := gb150) (o := .cells #[.int .i64 a1_0, .int .i64 a1_1] 45 (0, 0)) (by (with_reducible repeat (first | refine zn ?_ _ | refine zd ?_ | refine za ?_ _)); exact BK150.out) hb); have n2_ := zK (zp zB hb); clear BK149; clear BK150; clear HB; have BK149 := n0_; have BK150 := n1_; have HB := n2_; clear n0_ n1_ n2_; (try clear hb); (try clear hb2); (try clear hk); (try clear hi); have hcz34_0 : w33.cell? ⟨gb150, 0, none⟩ = some (.int .i64 a1_0) := (zc BK150.out 0).trans rfl; have hcz34_1 : w33.cell? ⟨gb150, 1, none⟩ = some (.int .i64 a1_1) := (zc BK150.out 1).trans rfl; have hfz34_0 := zf BK150.out 0; have hfz34_1 := zf BK150.out 1) | (go_at_call 76; (with_reducible refine (impl_ScaleOk.calls a1_0 a1_1 false _ A10.out).mono ?_); rintro e w35 ⟨rfl, hb⟩; have n0_ := zK (zg (g := gb149) (o := .cells #[.int .i64 a0_0, .int .i64 a0_1] 45 (0, 0)) (by (with_reducible repeat (first | refine zn ?_ _ | refine zd ?_ | refine za ?_ _)); exact BK149.out) hb); have n1_ := zK (zg (g := gb150) (o := .cells #[.int .i64 a1_0, .int .i64 a1_1] 45 (0, 0)) (by (with_reducible repeat (first | refine zn ?_ _ | refine zd ?_ | refine za ?_ _)); exact BK150.out) hb); have n2_ := zK (zp zB hb); clear BK149; clear BK150; clear HB; have BK149 := n0_; have BK150 := n1_; have HB := n2_; clear n0_ n1_ n2_; (try clear hb); (try clear hb2); (try clear hk); (try clear hi))); try go_wp2_with (first | (go_at_call 76; (with_reducible refine (impl_ScaleOk.calls a0_0 a0_1 true _ A8.out).mono ?_); rintro e w33 ⟨rfl, hb⟩; have n0_ := zK (zg (g := gb149) (o := .cells #[.int .i64 a0_0, .int .i64 a0_1] 45 (0, 0)) (by (with_reducible repeat (first | refine zn ?_ _ | refine zd ?_ | refine za ?_ _)); exact BK149.out) hb); have n1_ := zK (zg (g := gb150) (o := .cells #[.int .i64 a1_0, .int .i64 a1_1] 45 (0, 0)) (by (with_reducible repeat (first | refine zn ?_ _ | refine zd ?_ | refine za ?_ _)); exact BK150.out) hb); have n2_ := zK (zp zB hb); clear BK149; clear BK150; clear HB; have BK149 := n0_; have BK150 := n1_; have HB := n2_; clear n0_ n1_ n2_; (try clear hb); (try clear hb2); (try clear hk); (try clear hi); have hcz34_0 : w33.cell? ⟨gb150, 0, none⟩ = some (.int .i64 a1_0) := (zc BK150.out 0).trans rfl; have hcz34_1 : w33.cell? ⟨gb150, 1, none⟩ = some (.int .i64 a1_1) := (zc BK150.out 1).trans rfl; have hfz34_0 := zf BK150.out 0; have hfz34_1 := zf BK150.out 1) | (go_at_call 76; (with_reducible refine (impl_ScaleOk.calls a1_0 a1_1 false _ A10.out).mono ?_); rintro e w35 ⟨rfl, hb⟩; have n0_ := zK (zg (g := gb149) (o := .cells #[.int .i64 a0_0, .int .i64 a0_1] 45 (0, 0)) (by (with_reducible repeat (first | refine zn ?_ _ | refine zd ?_ | refine za ?_ _)); exact BK149.out) hb); have n1_ := zK (zg (g := gb150) (o := .cells #[.int .i64 a1_0, .int .i64 a1_1] 45 (0, 0)) (by (with_reducible repeat (first | refine zn ?_ _ | refine zd ?_ | refine za ?_ _)); exact BK150.out) hb); have n2_ := zK (zp zB hb); clear BK149; clear BK150; clear HB; have BK149 := n0_; have BK150 := n1_; have HB := n2_; clear n0_ n1_ n2_; (try clear hb); (try clear hb2); (try clear hk); (try clear hi))))
     go_meet
     case rel => exact ⟨_, (true), zR, H', ⟨by first | omega | exact Nat.le_refl _⟩, ⟨by (with_reducible repeat (first | refine zn ?_ _ | refine zd ?_ | refine za ?_ _)); exact BK149.out⟩, ⟨by (with_reducible repeat (first | refine zn ?_ _ | refine zd ?_ | refine za ?_ _)); exact BK150.out⟩, ⟨zB⟩⟩
   subst c11
   have H1 : (if (l2.length : Int) = (l3.length : Int) then ((impl_bytesOk.f k l2).bind fun t153 => (if t153 = true then ((impl_bytesOk.f k l3).bind fun t154 => (impl_DotBytes.j0 k l2 l3 (!t154) a0_0 a0_1 a1_0 a1_1)) else (impl_DotBytes.j0 k l2 l3 true a0_0 a0_1 a1_0 a1_1))) else (impl_DotBytes.j0 k l2 l3 true a0_0 a0_1 a1_0 a1_1)) = some r := by rw [if_pos rfl] at H; exact H
   clear H
   have H := H1
   clear H1
   by_cases c12 : (l2.length : Int) = (l3.length : Int)
   rotate_left
   · rw [if_neg c12] at H
     have c12b0 : ((l2.length : Int) == (l3.length : Int)) = false := beq_eq_false_iff_ne.mpr c12
     have c12b1 : ((l2.length : Int) != (l3.length : Int)) = true := bne_iff_ne.mpr c12
     have c12b2 : (l2.length == l3.length) = false := by first | simpa using c12 | (simp at c12 ⊢; omega)
     (first | rw [c12b0] | (simp only [i64_w, i32_w]; rw [c12b0]) | skip)
     have H' := zK H
     clear H
     have hnb26 := NB149_150.out
     have hnc26 := NB150_149.out
     have hcz27_0 : w7.cell? ⟨gb149, 0, none⟩ = some (.int .i64 a0_0) := (zc BK149.out 0).trans rfl
     have hcz27_1 : w7.cell? ⟨gb149, 1, none⟩ = some (.int .i64 a0_1) := (zc BK149.out 1).trans rfl
     have hfz27_0 := zf BK149.out 0
     have hfz27_1 := zf BK149.out 1
     go_wp2_with (first | (go_at_call 76; (with_reducible refine (impl_ScaleOk.calls a0_0 a0_1 true _ A8.out).mono ?_); rintro e w28 ⟨rfl, hb⟩; have n0_ := zK (zg (g := gb149) (o := .cells #[.int .i64 a0_0, .int .i64 a0_1] 45 (0, 0)) (by (with_reducible repeat (first | refine zn ?_ _ | refine zd ?_ | refine za ?_ _)); exact BK149.out) hb); have n1_ := zK (zg (g := gb150) (o := .cells #[.int .i64 a1_0, .int .i64 a1_1] 45 (0, 0)) (by (with_reducible repeat (first | refine zn ?_ _ | refine zd ?_ | refine za ?_ _)); exact BK150.out) hb); have n2_ := zK (zp zB hb); clear BK149; clear BK150; clear HB; have BK149 := n0_; have BK150 := n1_; have HB := n2_; clear n0_ n1_ n2_; (try clear hb); (try clear hb2); (try clear hk); (try clear hi); have hcz29_0 : w28.cell? ⟨gb150, 0, none⟩ = some (.int .i64 a1_0) := (zc BK150.out 0).trans rfl; have hcz29_1 : w28.cell? ⟨gb150, 1, none⟩ = some (.int .i64 a1_1) := (zc BK150.out 1).trans rfl; have hfz29_0 := zf BK150.out 0; have hfz29_1 := zf BK150.out 1) | (go_at_call 76; (with_reducible refine (impl_ScaleOk.calls a1_0 a1_1 true _ A10.out).mono ?_); rintro e w30 ⟨rfl, hb⟩; have n0_ := zK (zg (g := gb149) (o := .cells #[.int .i64 a0_0, .int .i64 a0_1] 45 (0, 0)) (by (with_reducible repeat (first | refine zn ?_ _ | refine zd ?_ | refine za ?_ _)); exact BK149.out) hb); have n1_ := zK (zg (g := gb150) (o := .cells #[.int .i64 a1_0, .int .i64 a1_1] 45 (0, 0)) (by (with_reducible repeat (first | refine zn ?_ _ | refine zd ?_ | refine za ?_ _)); exact BK150.out) hb); have n2_ := zK (zp zB hb); clear BK149; clear BK150; clear HB; have BK149 := n0_; have BK150 := n1_; have HB := n2_; clear n0_ n1_ n2_; (try clear hb); (try clear hb2); (try clear hk); (try clear hi)))
     repeat (go_quiet (first | (go_at_call 76; (with_reducible refine (impl_ScaleOk.calls a0_0 a0_1 true _ A8.out).mono ?_); rintro e w28 ⟨rfl, hb⟩; have n0_ := zK (zg (g := gb149) (o := .cells #[.int .i64 a0_0, .int .i64 a0_1] 45 (0, 0)) (by (with_reducible repeat (first | refine zn ?_ _ | refine zd ?_ | refine za ?_ _)); exact BK149.out) hb); have n1_ := zK (zg (g := gb150) (o := .cells #[.int .i64 a1_0, .int .i64 a1_1] 45 (0, 0)) (by (with_reducible repeat (first | refine zn ?_ _ | refine zd ?_ | refine za ?_ _)); exact BK150.out) hb); have n2_ := zK (zp zB hb); clear BK149; clear BK150; clear HB; have BK149 := n0_; have BK150 := n1_; have HB := n2_; clear n0_ n1_ n2_; (try clear hb); (try clear hb2); (try clear hk); (try clear hi); have hcz29_0 : w28.cell? ⟨gb150, 0, none⟩ = some (.int .i64 a1_0) := (zc BK150.out 0).trans rfl; have hcz29_1 : w28.cell? ⟨gb150, 1, none⟩ = some (.int .i64 a1_1) := (zc BK150.out 1).trans rfl; have hfz29_0 := zf BK150.out 0; have hfz29_1 := zf BK150.out 1) | (go_at_call 76; (with_reducible refine (impl_ScaleOk.calls a1_0 a1_1 true _ A10.out).mono ?_); rintro e w30 ⟨rfl, hb⟩; have n0_ := zK (zg (g := gb149) (o := .cells #[.int .i64 a0_0, .int .i64 a0_1] 45 (0, 0)) (by (with_reducible repeat (first | refine zn ?_ _ | refine zd ?_ | refine za ?_ _)); exact BK149.out) hb); have n1_ := zK (zg (g := gb150) (o := .cells #[.int .i64 a1_0, .int .i64 a1_1] 45 (0, 0)) (by (with_reducible repeat (first | refine zn ?_ _ | refine zd ?_ | refine za ?_ _)); exact BK150.out) hb); have n2_ := zK (zp zB hb); clear BK149; clear BK150; clear HB; have BK149 := n0_; have BK150 := n1_; have HB := n2_; clear n0_ n1_ n2_; (try clear hb); (try clear hb2); (try clear hk); (try clear hi))); try go_wp2_with (first | (go_at_call 76; (with_reducible refine (impl_ScaleOk.calls a0_0 a0_1 true _ A8.out).mono ?_); rintro e w28 ⟨rfl, hb⟩; have n0_ := zK (zg (g := gb149) (o := .cells #[.int .i64 a0_0, .int .i64 a0_1] 45 (0, 0)) (by (with_reducible repeat (first | refine zn ?_ _ | refine zd ?_ | refine za ?_ _)); exact BK149.out) hb); have n1_ := zK (zg (g := gb150) (o := .cells #[.int .i64 a1_0, .int .i64 a1_1] 45 (0, 0)) (by (with_reducible repeat (first | refine zn ?_ _ | refine zd ?_ | refine za ?_ _)); exact BK150.out) hb); have n2_ := zK (zp zB hb); clear BK149; clear BK150; clear HB; have BK149 := n0_; have BK150 := n1_; have HB := n2_; clear n0_ n1_ n2_; (try clear hb); (try clear hb2); (try clear hk); (try clear hi); have hcz29_0 : w28.cell? ⟨gb150, 0, none⟩ = some (.int .i64 a1_0) := (zc BK150.out 0).trans rfl; have hcz29_1 : w28.cell? ⟨gb150, 1, none⟩ = some (.int .i64 a1_1) := (zc BK150.out 1).trans rfl; have hfz29_0 := zf BK150.out 0; have hfz29_1 := zf BK150.out 1) | (go_at_call 76; (with_reducible refine (impl_ScaleOk.calls a1_0 a1_1 true _ A10.out).mono ?_); rintro e w30 ⟨rfl, hb⟩; have n0_ := zK (zg (g := gb149) (o := .cells #[.int .i64 a0_0, .int .i64 a0_1] 45 (0, 0)) (by (with_reducible repeat (first | refine zn ?_ _ | refine zd ?_ | refine za ?_ _)); exact BK149.out) hb); have n1_ := zK (zg (g := gb150) (o := .cells #[.int .i64 a1_0, .int .i64 a1_1] 45 (0, 0)) (by (with_reducible repeat (first | refine zn ?_ _ | refine zd ?_ | refine za ?_ _)); exact BK150.out) hb); have n2_ := zK (zp zB hb); clear BK149; clear BK150; clear HB; have BK149 := n0_; have BK150 := n1_; have HB := n2_; clear n0_ n1_ n2_; (try clear hb); (try clear hb2); (try clear hk); (try clear hi))))
     go_meet
     case rel => exact ⟨_, (true), zR, H', ⟨by first | omega | exact Nat.le_refl _⟩, ⟨by (with_reducible repeat (first | refine zn ?_ _ | refine zd ?_ | refine za ?_ _)); exact BK149.out⟩, ⟨by (with_reducible repeat (first | refine zn ?_ _ | refine zd ?_ | refine za ?_ _)); exact BK150.out⟩, ⟨zB⟩⟩
   rw [if_pos c12] at H
   have c12b0 : ((l2.length : Int) == (l3.length : Int)) = true := beq_iff_eq.mpr c12
   have c12b1 : ((l2.length : Int) != (l3.length : Int)) = false := bne_eq_false_iff_eq.mpr c12
   have c12b2 : (l2.length == l3.length) = true := by first | simpa using c12 | (simp at c12 ⊢; omega)
   clear c12
   (first | rw [c12b0] | (simp only [i64_w, i32_w]; rw [c12b0]) | skip)
   replace H := Option.bind_eq_some_iff.mp H
   obtain ⟨t153, A130, H⟩ := H
   replace H : (if t153 = true then ((impl_bytesOk.f k l3).bind fun t154 => (impl_DotBytes.j0 k l2 l3 (!t154) a0_0 a0_1 a1_0 a1_1)) else (impl_DotBytes.j0 k l2 l3 true a0_0 a0_1 a1_0 a1_1)) = some r := H
   have A13 := zK A130
   clear A130
   by_cases c14 : t153 = true
   rotate_left
   · replace c14 := Bool.eq_false_iff.mpr c14
     subst c14
     have H1 : (impl_DotBytes.j0 k l2 l3 true a0_0 a0_1 a1_0 a1_1) = some r := by rw [if_neg (show ¬ (false = true) by decide)] at H; exact H
     clear H
     have H := H1
     clear H1
     have H' := zK H
     clear H
     have hnb21 := NB149_150.out
     have hnc21 := NB150_149.out
     have hcz22_0 : w7.cell? ⟨gb149, 0, none⟩ = some (.int .i64 a0_0) := (zc BK149.out 0).trans rfl
     have hcz22_1 : w7.cell? ⟨gb149, 1, none⟩ = some (.int .i64 a0_1) := (zc BK149.out 1).trans rfl
     have hfz22_0 := zf BK149.out 0
     have hfz22_1 := zf BK149.out 1
     go_wp2_with (first | (go_at_call 76; (with_reducible refine (impl_ScaleOk.calls a0_0 a0_1 true _ A8.out).mono ?_); rintro e w23 ⟨rfl, hb⟩; have n0_ := zK (zg (g := gb149) (o := .cells #[.int .i64 a0_0, .int .i64 a0_1] 45 (0, 0)) (by (with_reducible repeat (first | refine zn ?_ _ | refine zd ?_ | refine za ?_ _)); exact BK149.out) hb); have n1_ := zK (zg (g := gb150) (o := .cells #[.int .i64 a1_0, .int .i64 a1_1] 45 (0, 0)) (by (with_reducible repeat (first | refine zn ?_ _ | refine zd ?_ | refine za ?_ _)); exact BK150.out) hb); have n2_ := zK (zp zB hb); clear BK149; clear BK150; clear HB; have BK149 := n0_; have BK150 := n1_; have HB := n2_; clear n0_ n1_ n2_; (try clear hb); (try clear hb2); (try clear hk); (try clear hi); have hcz24_0 : w23.cell? ⟨gb150, 0, none⟩ = some (.int .i64 a1_0) := (zc BK150.out 0).trans rfl; have hcz24_1 : w23.cell? ⟨gb150, 1, none⟩ = some (.int .i64 a1_1) := (zc BK150.out 1).trans rfl; have hfz24_0 := zf BK150.out 0; have hfz24_1 := zf BK150.out 1) | (go_at_call 76; (with_reducible refine (impl_ScaleOk.calls a1_0 a1_1 true _ A10.out).mono ?_); rintro e w25 ⟨rfl, hb⟩; have n0_ := zK (zg (g := gb149) (o := .cells #[.int .i64 a0_0, .int .i64 a0_1] 45 (0, 0)) (by (with_reducible repeat (first | refine zn ?_ _ | refine zd ?_ | refine za ?_ _)); exact BK149.out) hb); have n1_ := zK (zg (g := gb150) (o := .cells #[.int .i64 a1_0, .int .i64 a1_1] 45 (0, 0)) (by (with_reducible repeat (first | refine zn ?_ _ | refine zd ?_ | refine za ?_ _)); exact BK150.out) hb); have n2_ := zK (zp zB hb); clear BK149; clear BK150; clear HB; have BK149 := n0_; have BK150 := n1_; have HB := n2_; clear n0_ n1_ n2_; (try clear hb); (try clear hb2); (try clear hk); (try clear hi)) | (go_at_call 118; (with_reducible refine (impl_bytesOk.calls k _ _ l2 false _ ?side1 ?side2 A13.out).mono ?_); (case side1 => repeat (first | exact (Kd.C_below HR2.out HB.out) | (with_reducible refine Kd.C_alloc ?_ _) | (with_reducible refine Kd.C_drewN ?_ _) | (with_reducible refine Kd.C_drew ?_))); (case side2 => exact HC2.out); rintro e w' ⟨rfl, ⟨nd, rfl⟩⟩; (try first | exact ⟨rfl, _, World.drewN_drewN _ _ _⟩ | exact ⟨rfl, _, Eq.trans (World.drewN_drewN _ _ _) (congrArg (World.drewN _) (Nat.add_assoc _ _ _))⟩)))
     repeat (go_quiet (first | (go_at_call 76; (with_reducible refine (impl_ScaleOk.calls a0_0 a0_1 true _ A8.out).mono ?_); rintro e w23 ⟨rfl, hb⟩; have n0_ := zK (zg (g := gb149) (o := .cells #[.int .i64 a0_0, .int .i64 a0_1] 45 (0, 0)) (by (with_reducible repeat (first | refine zn ?_ _ | refine zd ?_ | refine za ?_ _)); exact BK149.out) hb); have n1_ := zK (zg (g := gb150) (o := .cells #[.int .i64 a1_0, .int .i64 a1_1] 45 (0, 0)) (by (with_reducible repeat (first | refine zn ?_ _ | refine zd ?_ | refine za ?_ _)); exact BK150.out) hb); have n2_ := zK (zp zB hb); clear BK149; clear BK150; clear HB; have BK149 := n0_; have BK150 := n1_; have HB := n2_; clear n0_ n1_ n2_; (try clear hb); (try clear hb2); (try clear hk); (try clear hi); have hcz24_0 : w23.cell? ⟨gb150, 0, none⟩ = some (.int .i64 a1_0) := (zc BK150.out 0).trans rfl; have hcz24_1 : w23.cell? ⟨gb150, 1, none⟩ = some (.int .i64 a1_1) := (zc BK150.out 1).trans rfl; have hfz24_0 := zf BK150.out 0; have hfz24_1 := zf BK150.out 1) | (go_at_call 76; (with_reducible refine (impl_ScaleOk.calls a1_0 a1_1 true _ A10.out).mono ?_); rintro e w25 ⟨rfl, hb⟩; have n0_ := zK (zg (g := gb149) (o := .cells #[.int .i64 a0_0, .int .i64 a0_1] 45 (0, 0)) (by (with_reducible repeat (first | refine zn ?_ _ | refine zd ?_ | refine za ?_ _)); exact BK149.out) hb); have n1_ := zK (zg (g := gb150) (o := .cells #[.int .i64 a1_0, .int .i64 a1_1] 45 (0, 0)) (by (with_reducible repeat (first | refine zn ?_ _ | refine zd ?_ | refine za ?_ _)); exact BK150.out) hb); have n2_ := zK (zp zB hb); clear BK149; clear BK150; clear HB; have BK149 := n0_; have BK150 := n1_; have HB := n2_; clear n0_ n1_ n2_; (try clear hb); (try clear hb2); (try clear hk); (try clear hi)) | (go_at_call 118; (with_reducible refine (impl_bytesOk.calls k _ _ l2 false _ ?side1 ?side2 A13.out).mono ?_); (case side1 => repeat (first | exact (Kd.C_below HR2.out HB.out) | (with_reducible refine Kd.C_alloc ?_ _) | (with_reducible refine Kd.C_drewN ?_ _) | (with_reducible refine Kd.C_drew ?_))); (case side2 => exact HC2.out); rintro e w' ⟨rfl, ⟨nd, rfl⟩⟩; (try first | exact ⟨rfl, _, World.drewN_drewN _ _ _⟩ | exact ⟨rfl, _, Eq.trans (World.drewN_drewN _ _ _) (congrArg (World.drewN _) (Nat.add_assoc _ _ _))⟩))); try go_wp2_with (first | (go_at_call 76; (with_reducible refine (impl_ScaleOk.calls a0_0 a0_1 true _ A8.out).mono ?_); rintro e w23 ⟨rfl, hb⟩; have n0_ := zK (zg (g := gb149) (o := .cells #[.int .i64 a0_0, .int .i64 a0_1] 45 (0, 0)) (by (with_reducible repeat (first | refine zn ?_ _ | refine zd ?_ | refine za ?_ _)); exact BK149.out) hb); have n1_ := zK (zg (g := gb150) (o := .cells #[.int .i64 a1_0, .int .i64 a1_1] 45 (0, 0)) (by (with_reducible repeat (first | refine zn ?_ _ | refine zd ?_ | refine za ?_ _)); exact BK150.out) hb); have n2_ := zK (zp zB hb); clear BK149; clear BK150; clear HB; have BK149 := n0_; have BK150 := n1_; have HB := n2_; clear n0_ n1_ n2_; (try clear hb); (try clear hb2); (try clear hk); (try clear hi); have hcz24_0 : w23.cell? ⟨gb150, 0, none⟩ = some (.int .i64 a1_0) := (zc BK150.out 0).trans rfl; have hcz24_1 : w23.cell? ⟨gb150, 1, none⟩ = some (.int .i64 a1_1) := (zc BK150.out 1).trans rfl; have hfz24_0 := zf BK150.out 0; have hfz24_1 := zf BK150.out 1) | (go_at_call 76; (with_reducible refine (impl_ScaleOk.calls a1_0 a1_1 true _ A10.out).mono ?_); rintro e w25 ⟨rfl, hb⟩; have n0_ := zK (zg (g := gb149) (o := .cells #[.int .i64 a0_0, .int .i64 a0_1] 45 (0, 0)) (by (with_reducible repeat (first | refine zn ?_ _ | refine zd ?_ | refine za ?_ _)); exact BK149.out) hb); have n1_ := zK (zg (g := gb150) (o := .cells #[.int .i64 a1_0, .int .i64 a1_1] 45 (0, 0)) (by (with_reducible repeat (first | refine zn ?_ _ | refine zd ?_ | refine za ?_ _)); exact BK150.out) hb); have n2_ := zK (zp zB hb); clear BK149; clear BK150; clear HB; have BK149 := n0_; have BK150 := n1_; have HB := n2_; clear n0_ n1_ n2_; (try clear hb); (try clear hb2); (try clear hk); (try clear hi)) | (go_at_call 118; (with_reducible refine (impl_bytesOk.calls k _ _ l2 false _ ?side1 ?side2 A13.out).mono ?_); (case side1 => repeat (first | exact (Kd.C_below HR2.out HB.out) | (with_reducible refine Kd.C_alloc ?_ _) | (with_reducible refine Kd.C_drewN ?_ _) | (with_reducible refine Kd.C_drew ?_))); (case side2 => exact HC2.out); rintro e w' ⟨rfl, ⟨nd, rfl⟩⟩; (try first | exact ⟨rfl, _, World.drewN_drewN _ _ _⟩ | exact ⟨rfl, _, Eq.trans (World.drewN_drewN _ _ _) (congrArg (World.drewN _) (Nat.add_assoc _ _ _))⟩))))
     go_meet
     case rel => exact ⟨_, (true), zR, H', ⟨by first | omega | exact Nat.le_refl _⟩, ⟨by (with_reducible repeat (first | refine zn ?_ _ | refine zd ?_ | refine za ?_ _)); exact BK149.out⟩, ⟨by (with_reducible repeat (first | refine zn ?_ _ | refine zd ?_ | refine za ?_ _)); exact BK150.out⟩, ⟨zB⟩⟩
   subst c14
   have H1 : ((impl_bytesOk.f k l3).bind fun t154 => (impl_DotBytes.j0 k l2 l3 (!t154) a0_0 a0_1 a1_0 a1_1)) = some r := by rw [if_pos rfl] at H; exact H
   clear H
   have H := H1
   clear H1
   replace H := Option.bind_eq_some_iff.mp H
   obtain ⟨t154, A150, H⟩ := H
   replace H : (impl_DotBytes.j0 k l2 l3 (!t154) a0_0 a0_1 a1_0 a1_1) = some r := H
   have A15 := zK A150
   clear A150
   have H' := zK H
   clear H
   have hnb16 := NB149_150.out
   have hnc16 := NB150_149.out
   have hcz17_0 : w7.cell? ⟨gb149, 0, none⟩ = some (.int .i64 a0_0) := (zc BK149.out 0).trans rfl
   have hcz17_1 : w7.cell? ⟨gb149, 1, none⟩ = some (.int .i64 a0_1) := (zc BK149.out 1).trans rfl
   have hfz17_0 := zf BK149.out 0
   have hfz17_1 := zf BK149.out 1
   go_wp2_with (first | (go_at_call 76; (with_reducible refine (impl_ScaleOk.calls a0_0 a0_1 true _ A8.out).mono ?_); rintro e w18 ⟨rfl, hb⟩; have n0_ := zK (zg (g := gb149) (o := .cells #[.int .i64 a0_0, .int .i64 a0_1] 45 (0, 0)) (by (with_reducible repeat (first | refine zn ?_ _ | refine zd ?_ | refine za ?_ _)); exact BK149.out) hb); have n1_ := zK (zg (g := gb150) (o := .cells #[.int .i64 a1_0, .int .i64 a1_1] 45 (0, 0)) (by (with_reducible repeat (first | refine zn ?_ _ | refine zd ?_ | refine za ?_ _)); exact BK150.out) hb); have n2_ := zK (zp zB hb); clear BK149; clear BK150; clear HB; have BK149 := n0_; have BK150 := n1_; have HB := n2_; clear n0_ n1_ n2_; (try clear hb); (try clear hb2); (try clear hk); (try clear hi); have hcz19_0 : w18.cell? ⟨gb150, 0, none⟩ = some (.int .i64 a1_0) := (zc BK150.out 0).trans rfl; have hcz19_1 : w18.cell? ⟨gb150, 1, none⟩ = some (.int .i64 a1_1) := (zc BK150.out 1).trans rfl; have hfz19_0 := zf BK150.out 0; have hfz19_1 := zf BK150.out 1) | (go_at_call 76; (with_reducible refine (impl_ScaleOk.calls a1_0 a1_1 true _ A10.out).mono ?_); rintro e w20 ⟨rfl, hb⟩; have n0_ := zK (zg (g := gb149) (o := .cells #[.int .i64 a0_0, .int .i64 a0_1] 45 (0, 0)) (by (with_reducible repeat (first | refine zn ?_ _ | refine zd ?_ | refine za ?_ _)); exact BK149.out) hb); have n1_ := zK (zg (g := gb150) (o := .cells #[.int .i64 a1_0, .int .i64 a1_1] 45 (0, 0)) (by (with_reducible repeat (first | refine zn ?_ _ | refine zd ?_ | refine za ?_ _)); exact BK150.out) hb); have n2_ := zK (zp zB hb); clear BK149; clear BK150; clear HB; have BK149 := n0_; have BK150 := n1_; have HB := n2_; clear n0_ n1_ n2_; (try clear hb); (try clear hb2); (try clear hk); (try clear hi)) | (go_at_call 118; (with_reducible refine (impl_bytesOk.calls k _ _ l2 true _ ?side1 ?side2 A13.out).mono ?_); (case side1 => repeat (first | exact (Kd.C_below HR2.out HB.out) | (with_reducible refine Kd.C_alloc ?_ _) | (with_reducible refine Kd.C_drewN ?_ _) | (with_reducible refine Kd.C_drew ?_))); (case side2 => exact HC2.out); rintro e w' ⟨rfl, ⟨nd, rfl⟩⟩; (try first | exact ⟨rfl, _, World.drewN_drewN _ _ _⟩ | exact ⟨rfl, _, Eq.trans (World.drewN_drewN _ _ _) (congrArg (World.drewN _) (Nat.add_assoc _ _ _))⟩)) | (go_at_call 118; (with_reducible refine (impl_bytesOk.calls k _ _ l3 t154 _ ?side1 ?side2 A15.out).mono ?_); (case side1 => repeat (first | exact (Kd.C_below HR3.out zB) | (with_reducible refine Kd.C_alloc ?_ _) | (with_reducible refine Kd.C_drewN ?_ _) | (with_reducible refine Kd.C_drew ?_))); (case side2 => exact HC3.out); rintro e w' ⟨rfl, ⟨nd, rfl⟩⟩; (try first | exact ⟨rfl, _, World.drewN_drewN _ _ _⟩ | exact ⟨rfl, _, Eq.trans (World.drewN_drewN _ _ _) (congrArg (World.drewN _) (Nat.add_assoc _ _ _))⟩)))
   repeat (go_quiet (first | (go_at_call 76; (with_reducible refine (impl_ScaleOk.calls a0_0 a0_1 true _ A8.out).mono ?_); rintro e w18 ⟨rfl, hb⟩; have n0_ := zK (zg (g := gb149) (o := .cells #[.int .i64 a0_0, .int .i64 a0_1] 45 (0, 0)) (by (with_reducible repeat (first | refine zn ?_ _ | refine zd ?_ | refine za ?_ _)); exact BK149.out) hb); have n1_ := zK (zg (g := gb150) (o := .cells #[.int .i64 a1_0, .int .i64 a1_1] 45 (0, 0)) (by (with_reducible repeat (first | refine zn ?_ _ | refine zd ?_ | refine za ?_ _)); exact BK150.out) hb); have n2_ := zK (zp zB hb); clear BK149; clear BK150; clear HB; have BK149 := n0_; have BK150 := n1_; have HB := n2_; clear n0_ n1_ n2_; (try clear hb); (try clear hb2); (try clear hk); (try clear hi); have hcz19_0 : w18.cell? ⟨gb150, 0, none⟩ = some (.int .i64 a1_0) := (zc BK150.out 0).trans rfl; have hcz19_1 : w18.cell? ⟨gb150, 1, none⟩ = some (.int .i64 a1_1) := (zc BK150.out 1).trans rfl; have hfz19_0 := zf BK150.out 0; have hfz19_1 := zf BK150.out 1) | (go_at_call 76; (with_reducible refine (impl_ScaleOk.calls a1_0 a1_1 true _ A10.out).mono ?_); rintro e w20 ⟨rfl, hb⟩; have n0_ := zK (zg (g := gb149) (o := .cells #[.int .i64 a0_0, .int .i64 a0_1] 45 (0, 0)) (by (with_reducible repeat (first | refine zn ?_ _ | refine zd ?_ | refine za ?_ _)); exact BK149.out) hb); have n1_ := zK (zg (g := gb150) (o := .cells #[.int .i64 a1_0, .int .i64 a1_1] 45 (0, 0)) (by (with_reducible repeat (first | refine zn ?_ _ | refine zd ?_ | refine za ?_ _)); exact BK150.out) hb); have n2_ := zK (zp zB hb); clear BK149; clear BK150; clear HB; have BK149 := n0_; have BK150 := n1_; have HB := n2_; clear n0_ n1_ n2_; (try clear hb); (try clear hb2); (try clear hk); (try clear hi)) | (go_at_call 118; (with_reducible refine (impl_bytesOk.calls k _ _ l2 true _ ?side1 ?side2 A13.out).mono ?_); (case side1 => repeat (first | exact (Kd.C_below HR2.out HB.out) | (with_reducible refine Kd.C_alloc ?_ _) | (with_reducible refine Kd.C_drewN ?_ _) | (with_reducible refine Kd.C_drew ?_))); (case side2 => exact HC2.out); rintro e w' ⟨rfl, ⟨nd, rfl⟩⟩; (try first | exact ⟨rfl, _, World.drewN_drewN _ _ _⟩ | exact ⟨rfl, _, Eq.trans (World.drewN_drewN _ _ _) (congrArg (World.drewN _) (Nat.add_assoc _ _ _))⟩)) | (go_at_call 118; (with_reducible refine (impl_bytesOk.calls k _ _ l3 t154 _ ?side1 ?side2 A15.out).mono ?_); (case side1 => repeat (first | exact (Kd.C_below HR3.out zB) | (with_reducible refine Kd.C_alloc ?_ _) | (with_reducible refine Kd.C_drewN ?_ _) | (with_reducible refine Kd.C_drew ?_))); (case side2 => exact HC3.out); rintro e w' ⟨rfl, ⟨nd, rfl⟩⟩; (try first | exact ⟨rfl, _, World.drewN_drewN _ _ _⟩ | exact ⟨rfl, _, Eq.trans (World.drewN_drewN _ _ _) (congrArg (World.drewN _) (Nat.add_assoc _ _ _))⟩))); try go_wp2_with (first | (go_at_call 76; (with_reducible refine (impl_ScaleOk.calls a0_0 a0_1 true _ A8.out).mono ?_); rintro e w18 ⟨rfl, hb⟩; have n0_ := zK (zg (g := gb149) (o := .cells #[.int .i64 a0_0, .int .i64 a0_1] 45 (0, 0)) (by (with_reducible repeat (first | refine zn ?_ _ | refine zd ?_ | refine za ?_ _)); exact BK149.out) hb); have n1_ := zK (zg (g := gb150) (o := .cells #[.int .i64 a1_0, .int .i64 a1_1] 45 (0, 0)) (by (with_reducible repeat (first | refine zn ?_ _ | refine zd ?_ | refine za ?_ _)); exact BK150.out) hb); have n2_ := zK (zp zB hb); clear BK149; clear BK150; clear HB; have BK149 := n0_; have BK150 := n1_; have HB := n2_; clear n0_ n1_ n2_; (try clear hb); (try clear hb2); (try clear hk); (try clear hi); have hcz19_0 : w18.cell? ⟨gb150, 0, none⟩ = some (.int .i64 a1_0) := (zc BK150.out 0).trans rfl; have hcz19_1 : w18.cell? ⟨gb150, 1, none⟩ = some (.int .i64 a1_1) := (zc BK150.out 1).trans rfl; have hfz19_0 := zf BK150.out 0; have hfz19_1 := zf BK150.out 1) | (go_at_call 76; (with_reducible refine (impl_ScaleOk.calls a1_0 a1_1 true _ A10.out).mono ?_); rintro e w20 ⟨rfl, hb⟩; have n0_ := zK (zg (g := gb149) (o := .cells #[.int .i64 a0_0, .int .i64 a0_1] 45 (0, 0)) (by (with_reducible repeat (first | refine zn ?_ _ | refine zd ?_ | refine za ?_ _)); exact BK149.out) hb); have n1_ := zK (zg (g := gb150) (o := .cells #[.int .i64 a1_0, .int .i64 a1_1] 45 (0, 0)) (by (with_reducible repeat (first | refine zn ?_ _ | refine zd ?_ | refine za ?_ _)); exact BK150.out) hb); have n2_ := zK (zp zB hb); clear BK149; clear BK150; clear HB; have BK149 := n0_; have BK150 := n1_; have HB := n2_; clear n0_ n1_ n2_; (try clear hb); (try clear hb2); (try clear hk); (try clear hi)) | (go_at_call 118; (with_reducible refine (impl_bytesOk.calls k _ _ l2 true _ ?side1 ?side2 A13.out).mono ?_); (case side1 => repeat (first | exact (Kd.C_below HR2.out HB.out) | (with_reducible refine Kd.C_alloc ?_ _) | (with_reducible refine Kd.C_drewN ?_ _) | (with_reducible refine Kd.C_drew ?_))); (case side2 => exact HC2.out); rintro e w' ⟨rfl, ⟨nd, rfl⟩⟩; (try first | exact ⟨rfl, _, World.drewN_drewN _ _ _⟩ | exact ⟨rfl, _, Eq.trans (World.drewN_drewN _ _ _) (congrArg (World.drewN _) (Nat.add_assoc _ _ _))⟩)) | (go_at_call 118; (with_reducible refine (impl_bytesOk.calls k _ _ l3 t154 _ ?side1 ?side2 A15.out).mono ?_); (case side1 => repeat (first | exact (Kd.C_below HR3.out zB) | (with_reducible refine Kd.C_alloc ?_ _) | (with_reducible refine Kd.C_drewN ?_ _) | (with_reducible refine Kd.C_drew ?_))); (case side2 => exact HC3.out); rintro e w' ⟨rfl, ⟨nd, rfl⟩⟩; (try first | exact ⟨rfl, _, World.drewN_drewN _ _ _⟩ | exact ⟨rfl, _, Eq.trans (World.drewN_drewN _ _ _) (congrArg (World.drewN _) (Nat.add_assoc _ _ _))⟩))))
   go_meet
   case rel => exact ⟨_, (!t154), zR, H', ⟨by first | omega | exact Nat.le_refl _⟩, ⟨by (with_reducible repeat (first | refine zn ?_ _ | refine zd ?_ | refine za ?_ _)); exact BK149.out⟩, ⟨by (with_reducible repeat (first | refine zn ?_ _ | refine zd ?_ | refine za ?_ _)); exact BK150.out⟩, ⟨zB⟩⟩
  case rest =>
   clear HC5
   try clear c1
   try clear c2
   try clear p2
   try clear c3
   try clear c6
   try clear c9
   try clear c11
   try clear c12
   try clear c12b0
   try clear c12b1
   try clear c12b2
   try clear c14
   try clear c16
   try clear c21
   try clear c26
   try clear c31
   try clear c36
   try clear hcz17_0
   try clear hcz17_1
   try clear hcz19_0
   try clear hcz19_1
   try clear hcz22_0
   try clear hcz22_1
   try clear hcz24_0
   try clear hcz24_1
   try clear hcz27_0
   try clear hcz27_1
   try clear hcz29_0
   try clear hcz29_1
   try clear hcz32_0
   try clear hcz32_1
   try clear hcz34_0
   try clear hcz34_1
   try clear hcz37_0
   try clear hcz37_1
   try clear hfz17_0
   try clear hfz17_1
   try clear hfz19_0
   try clear hfz19_1
   try clear hfz22_0
   try clear hfz22_1
   try clear hfz24_0
   try clear hfz24_1
   try clear hfz27_0
   try clear hfz27_1
   try clear hfz29_0
   try clear hfz29_1
   try clear hfz32_0
   try clear hfz32_1
   try clear hfz34_0
   try clear hfz34_1
   try clear hfz37_0
   try clear hfz37_1
   obtain ⟨kq, x36_4, rfl, HA, HJ4, BK149, BK150, HB⟩ := hcut
   cases kq with
   | zero => exact absurd HA.out (by simp [impl_DotBytes.j0])
   | succ kj4 =>
    have H := HA.out
    clear HA
    simp only [impl_DotBytes.j0] at H
    by_cases c39 : x36_4 = true
    · subst c39
      have H1 : (some 0) = some r := by rw [if_pos rfl] at H; exact H
      clear H
      have H := H1
      clear H1
      obtain rfl := Option.some.inj H
      go_wp2
      repeat (go_quiet (fail); try go_wp2)
      go_ret
      exact ⟨by first | rfl | (simp [errW_none, errW_some] <;> rfl) | (simp [*, errW_none, errW_some] <;> rfl), zB⟩
    replace c39 := Bool.eq_false_iff.mpr c39
    subst c39
    have H1 : (impl_DotBytes.l0 kj4 l3 0 l2 (l2.length : Int) 0 a0_0 a0_1 a1_0 a1_1) = some r := by rw [if_neg (show ¬ (false = true) by decide)] at H; exact H
    clear H
    have H := H1
    clear H1
    have H' := zK H
    clear H
    go_wp2
    repeat (go_quiet (fail); try go_wp2)
    go_loopg [9, 39] kj4 (fun kq v9 v39 w' => ∃ (x9_2 : Int) (x39_2 : Int), v9 = .int .i64 x9_2 ∧ v39 = .int .i64 x39_2 ∧ Aside0 (impl_DotBytes.l0 kq l3 x9_2 l2 (l2.length : Int) x39_2 a0_0 a0_1 a1_0 a1_1 = some r) ∧ Aside0 (kq ≤ kj4) ∧ Aside0 (w'.heap[gb149]? = some (.cells #[.int .i64 a0_0, .int .i64 a0_1] 45 (0, 0))) ∧ Aside0 (w'.heap[gb150]? = some (.cells #[.int .i64 a1_0, .int .i64 a1_1] 45 (0, 0))) ∧ Aside0 (Below w.heap.size w w'))
    case atStart => exact ⟨(0), (0), zR, zR, H', ⟨Nat.le_refl _⟩, ⟨by (with_reducible repeat (first | refine zn ?_ _ | refine zd ?_ | refine za ?_ _)); exact BK149.out⟩, ⟨by (with_reducible repeat (first | refine zn ?_ _ | refine zd ?_ | refine za ?_ _)); exact BK150.out⟩, ⟨zB⟩⟩
    clear H'
    try clear c1
    try clear c2
    try clear p2
    try clear c3
    try clear c6
    try clear c9
    try clear c11
    try clear c12
    try clear c12b0
    try clear c12b1
    try clear c12b2
    try clear c14
    try clear c16
    try clear c21
    try clear c26
    try clear c31
    try clear c36
    try clear c39
    try clear hcz17_0
    try clear hcz17_1
    try clear hcz19_0
    try clear hcz19_1
    try clear hcz22_0
    try clear hcz22_1
    try clear hcz24_0
    try clear hcz24_1
    try clear hcz27_0
    try clear hcz27_1
    try clear hcz29_0
    try clear hcz29_1
    try clear hcz32_0
    try clear hcz32_1
    try clear hcz34_0
    try clear hcz34_1
    try clear hcz37_0
    try clear hcz37_1
    try clear hfz17_0
    try clear hfz17_1
    try clear hfz19_0
    try clear hfz19_1
    try clear hfz22_0
    try clear hfz22_1
    try clear hfz24_0
    try clear hfz24_1
    try clear hfz27_0
    try clear hfz27_1
    try clear hfz29_0
    try clear hfz29_1
    try clear hfz32_0
    try clear hfz32_1
    try clear hfz34_0
    try clear hfz34_1
    try clear hfz37_0
    try clear hfz37_1
    try clear p2
    obtain ⟨x9_2, x39_2, rfl, rfl, HA, HK2, BK149, BK150, HB⟩ := hrel
    rcases gk with _ | k2
    · exact absurd HA.out (by simp [impl_DotBytes.l0])
    have H := HA.out
    clear HA
    simp only [impl_DotBytes.l0] at H
    by_cases c40 : x39_2 < (l2.length : Int)
    rotate_left
    · rw [if_neg c40] at H
      have c40b0 : decide (x39_2 < (l2.length : Int)) = false := decide_eq_false c40
      clear c40
      obtain rfl := Option.some.inj H
      go_wp2
      repeat (go_quiet (fail); try go_wp2)
      go_ret
      exact ⟨by first | rfl | (simp [errW_none, errW_some] <;> rfl) | (simp [*, errW_none, errW_some] <;> rfl), zB⟩
    rw [if_pos c40] at H
    have c40b0 : decide (x39_2 < (l2.length : Int)) = true := decide_eq_true c40
    clear c40
    by_cases c41 : 0 ≤ x39_2
    rotate_left
    · rw [if_neg c41] at H
      exact absurd H (by simp)
    rw [if_pos c41] at H
    have c41b0 : decide (0 ≤ x39_2) = true := decide_eq_true c41
    clear c41
    by_cases c42 : x39_2 < (l2.length : Int)
    rotate_left
    · rw [if_neg c42] at H
      exact absurd H (by simp)
    rw [if_pos c42] at H
    have c42b0 : decide (x39_2 < (l2.length : Int)) = true := decide_eq_true c42
    clear c42
    by_cases c43 : x39_2 < (l3.length : Int)
    rotate_left
    · rw [if_neg c43] at H
      exact absurd H (by simp)
    rw [if_pos c43] at H
    have c43b0 : decide (x39_2 < (l3.length : Int)) = true := decide_eq_true c43
    clear c43
    have H' := zK H
    clear H
    have p155 : 0 ≤ (x39_2 : Int) := of_decide_eq_true zA
    have q155 : x39_2 < (l2.length : Int) := of_decide_eq_true zA
    obtain ⟨ad155, e155, hx155_0⟩ := Kd.at_int HR2.out x39_2 p155 q155
    cases e155
    (try replace hx155_0 := (HB.out.cell (World.block_lt_of_cell? w _ hx155_0)).trans hx155_0)
    replace p155 := eq_true p155
    replace q155 := eq_true q155
    have hnb44 := NB149_150.out
    have hnc44 := NB150_149.out
    have hcz45_0 : wr.cell? ⟨gb149, 0, none⟩ = some (.int .i64 a0_0) := (zc BK149.out 0).trans rfl
    have hcz45_1 : wr.cell? ⟨gb149, 1, none⟩ = some (.int .i64 a0_1) := (zc BK149.out 1).trans rfl
    have hfz45_0 := zf BK149.out 0
    have hfz45_1 := zf BK149.out 1
    have p156 : 0 ≤ (x39_2 : Int) := of_decide_eq_true zA
    have q156 : x39_2 < (l3.length : Int) := of_decide_eq_true zA
    obtain ⟨ad156, e156, hx156_0⟩ := Kd.at_int HR3.out x39_2 p156 q156
    cases e156
    (try replace hx156_0 := (HB.out.cell (World.block_lt_of_cell? w _ hx156_0)).trans hx156_0)
    replace p156 := eq_true p156
    replace q156 := eq_true q156
    have hcz46_0 : wr.cell? ⟨gb150, 0, none⟩ = some (.int .i64 a1_0) := (zc BK150.out 0).trans rfl
    have hcz46_1 : wr.cell? ⟨gb150, 1, none⟩ = some (.int .i64 a1_1) := (zc BK150.out 1).trans rfl
    have hfz46_0 := zf BK150.out 0
    have hfz46_1 := zf BK150.out 1
    go_wp2
    repeat (go_quiet (fail); try go_wp2)
    go_roundg k2
    case measure => have := HJ4.out; have := HK2.out; omega
    case rel => exact ⟨(wrap64 (x9_2 + (wrap64 ((wrap64 ((rd l2 x39_2) - a0_1)) * (wrap64 ((rd l3 x39_2) - a1_1)))))), (wrap64 (x39_2 + 1)), zR, zR, H', ⟨by have := HJ4.out; have := HK2.out; omega⟩, ⟨by (with_reducible repeat (first | refine zn ?_ _ | refine zd ?_ | refine za ?_ _)); exact BK149.out⟩, ⟨by (with_reducible repeat (first | refine zn ?_ _ | refine zd ?_ | refine za ?_ _)); exact BK150.out⟩, ⟨zB⟩⟩

end Go.Proofs.Ytemcipcijhkhjaa.PFnMatBound
