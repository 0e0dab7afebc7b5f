-- Printed out of the translation by this session's own turned copy of a printer; Lean checks it.
import Derived.Test.YtemcipcijhkhjaaPFnMatBoundx0
import Derived.Test.YtemcipcijhkhjaaPFnMatBoundx1
namespace Go.Proofs.Ytemcipcijhkhjaa.PFnMatBound
open Go.RowKit Go.Proofs.YtemcipcijhkhjaaW.PrintWords Go.Proofs.YtemcipcijhkhjaaW.PrintLast Go.Proofs.YtemcipcijhkhjaaW.PrintMore
attribute [local go_sem] max2_int min2_int max_two min_two max_three min_three max_four min_four   -- for this text's walks alone
set_option linter.unusedVariables false
set_option linter.unusedSimpArgs false

/-! ### laws_abs: function 21 -/
def laws_abs.f (a0 : Int) : Option (Int) := if a0 < 0 then (some (wrap64 (-a0))) else (some a0)
set_option maxHeartbeats 8000000 in
set_option maxRecDepth 100000 in
theorem laws_abs.calls (a0 : Int) (r : Int) (w : World) (h : laws_abs.f a0 = some r) :
    Calls Try.prog 21 #[.int .i64 a0] w fun e w' => e = .returned (.int .i64 r) ∧ Drawn0 w w' := by
  have H : (if a0 < 0 then (some (wrap64 (-a0))) else (some a0)) = some r := h
  clear h
  by_cases c2 : a0 < 0
  · rw [if_pos c2] at H
    have c2b0 : decide (a0 < 0) = true := decide_eq_true c2
    clear c2
    obtain rfl := Option.some.inj H
    go_enter Try.func21, Try.ntmps21
    go_wp2
    go_ret
    exact ⟨zR, zD⟩
  rw [if_neg c2] at H
  have c2b0 : decide (a0 < 0) = false := decide_eq_false c2
  clear c2
  obtain rfl := Option.some.inj H
  go_enter Try.func21, Try.ntmps21
  go_wp2
  go_ret
  exact ⟨zR, zD⟩

/-! ### impl_Value: function 22 -/
def impl_Value.f (a0_0 : Int) (a0_1 : Int) (a1 : Int) : Option (Int) := (impl_ScaleOk.f a0_0 a0_1).bind fun t259 => (if t259 = true then ((impl_isByte.f a1).bind fun t260 => (if t260 = true then (some (wrap64 (a0_0 * (wrap64 (a1 - a0_1))))) else (some 0))) else (some 0))
set_option maxHeartbeats 8000000 in
set_option maxRecDepth 100000 in
theorem impl_Value.calls (a0_0 : Int) (a0_1 : Int) (a1 : Int) (r : Int) (w : World) (h : impl_Value.f a0_0 a0_1 a1 = some r) :
    Calls Try.prog 22 #[.agg #[.int .i64 a0_0, .int .i64 a0_1], .int .i64 a1] w fun e w' => e = .returned (.int .i64 r) ∧ Below w.heap.size w w' := by
  have hu45 := Try.underlying45
  have HB := zK (Below.refl w.heap.size w)
  have H : ((impl_ScaleOk.f a0_0 a0_1).bind fun t259 => (if t259 = true then ((impl_isByte.f a1).bind fun t260 => (if t260 = true then (some (wrap64 (a0_0 * (wrap64 (a1 - a0_1))))) else (some 0))) else (some 0))) = some r := h
  clear h
  replace H := Option.bind_eq_some_iff.mp H
  obtain ⟨t259, A30, H⟩ := H
  replace H : (if t259 = true then ((impl_isByte.f a1).bind fun t260 => (if t260 = true then (some (wrap64 (a0_0 * (wrap64 (a1 - a0_1))))) else (some 0))) else (some 0)) = some r := H
  have A3 := zK A30
  clear A30
  by_cases c4 : t259 = true
  rotate_left
  · replace c4 := Bool.eq_false_iff.mpr c4
    subst c4
    have H1 : (some 0) = some r := by rw [if_neg (show ¬ (false = true) by decide)] at H; exact H
    clear H
    have H := H1
    clear H1
    obtain rfl := Option.some.inj H
    go_enter Try.func22, Try.ntmps22
    go_wp2_with (first | ((with_reducible refine gate_dst (N := 2) rfl ?_); refine box_event ?hg (N := 2) ?hd (cs := #[.int .i64 a0_0, .int .i64 a0_1]) (t := 45) ?hr ?_; (case hd => rfl); (case hg => rfl); (case hr => first | (go_simp; done) | (go_simp; rfl)); intro gb258 hg w14 hbox hb; have n0_ := zK (zp zB hb); have n1_ := zK (hbox); have n2_ := zK ((by rw [hg]; exact (zz zB) : w.heap.size ≤ gb258)); have n3_ := zK ((by rw [hg]; exact (zz zB) : w.heap.size ≤ gb258)); clear HB; have HB := n0_; have BK258 := n1_; have GW258 := n2_; have GE258 := n3_; clear n0_ n1_ n2_ n3_; clear hb hbox hg; have hcz15_0 : w14.cell? ⟨gb258, 0, none⟩ = some (.int .i64 a0_0) := (zc BK258.out 0).trans rfl; have hcz15_1 : w14.cell? ⟨gb258, 1, none⟩ = some (.int .i64 a0_1) := (zc BK258.out 1).trans rfl; have hfz15_0 := zf BK258.out 0; have hfz15_1 := zf BK258.out 1) | ((with_reducible refine gate_callee (f := 76) rfl ?_); refine goesL_ (some 6) rfl rfl Try.func76 (by kernel_rfl) rfl #[.agg #[.int .i64 a0_0, .int .i64 a0_1]] rfl zL ?_; (with_reducible refine (impl_ScaleOk.calls a0_0 a0_1 false _ A3.out).mono ?_); rintro e w16 ⟨rfl, hb⟩; refine ⟨_, rfl, ?_⟩; have n0_ := zK (zg (g := gb258) (o := .cells #[.int .i64 a0_0, .int .i64 a0_1] 45 (0, 0)) (by (with_reducible repeat (first | refine zn ?_ _ | refine zd ?_ | refine za ?_ _)); exact BK258.out) hb); have n1_ := zK (zp zB hb); clear BK258; clear HB; have BK258 := n0_; have HB := n1_; clear n0_ n1_; (try clear hb); (try clear hb2); (try clear hk); (try clear hi)))
    go_ret
    exact ⟨by first | rfl | (simp [errW_none, errW_some] <;> rfl) | (simp [*, errW_none, errW_some] <;> rfl), zB⟩
  subst c4
  have H1 : ((impl_isByte.f a1).bind fun t260 => (if t260 = true then (some (wrap64 (a0_0 * (wrap64 (a1 - a0_1))))) else (some 0))) = some r := by rw [if_pos rfl] at H; exact H
  clear H
  have H := H1
  clear H1
  replace H := Option.bind_eq_some_iff.mp H
  obtain ⟨t260, A50, H⟩ := H
  replace H : (if t260 = true then (some (wrap64 (a0_0 * (wrap64 (a1 - a0_1))))) else (some 0)) = some r := H
  have A5 := zK A50
  clear A50
  by_cases c6 : t260 = true
  rotate_left
  · replace c6 := Bool.eq_false_iff.mpr c6
    subst c6
    have H1 : (some 0) = some r := by rw [if_neg (show ¬ (false = true) by decide)] at H; exact H
    clear H
    have H := H1
    clear H1
    obtain rfl := Option.some.inj H
    go_enter Try.func22, Try.ntmps22
    go_wp2_with (first | ((with_reducible refine gate_dst (N := 2) rfl ?_); refine box_event ?hg (N := 2) ?hd (cs := #[.int .i64 a0_0, .int .i64 a0_1]) (t := 45) ?hr ?_; (case hd => rfl); (case hg => rfl); (case hr => first | (go_simp; done) | (go_simp; rfl)); intro gb258 hg w11 hbox hb; have n0_ := zK (zp zB hb); have n1_ := zK (hbox); have n2_ := zK ((by rw [hg]; exact (zz zB) : w.heap.size ≤ gb258)); have n3_ := zK ((by rw [hg]; exact (zz zB) : w.heap.size ≤ gb258)); clear HB; have HB := n0_; have BK258 := n1_; have GW258 := n2_; have GE258 := n3_; clear n0_ n1_ n2_ n3_; clear hb hbox hg; have hcz12_0 : w11.cell? ⟨gb258, 0, none⟩ = some (.int .i64 a0_0) := (zc BK258.out 0).trans rfl; have hcz12_1 : w11.cell? ⟨gb258, 1, none⟩ = some (.int .i64 a0_1) := (zc BK258.out 1).trans rfl; have hfz12_0 := zf BK258.out 0; have hfz12_1 := zf BK258.out 1) | ((with_reducible refine gate_callee (f := 76) rfl ?_); refine goesL_ (some 6) rfl rfl Try.func76 (by kernel_rfl) rfl #[.agg #[.int .i64 a0_0, .int .i64 a0_1]] rfl zL ?_; (with_reducible refine (impl_ScaleOk.calls a0_0 a0_1 true _ A3.out).mono ?_); rintro e w13 ⟨rfl, hb⟩; refine ⟨_, rfl, ?_⟩; have n0_ := zK (zg (g := gb258) (o := .cells #[.int .i64 a0_0, .int .i64 a0_1] 45 (0, 0)) (by (with_reducible repeat (first | refine zn ?_ _ | refine zd ?_ | refine za ?_ _)); exact BK258.out) hb); have n1_ := zK (zp zB hb); clear BK258; clear HB; have BK258 := n0_; have HB := n1_; clear n0_ n1_; (try clear hb); (try clear hb2); (try clear hk); (try clear hi)) | (go_at_call 66; (with_reducible refine (impl_isByte.calls a1 false _ A5.out).mono ?_); rintro e w' ⟨rfl, ⟨nd, rfl⟩⟩))
    go_ret
    exact ⟨by first | rfl | (simp [errW_none, errW_some] <;> rfl) | (simp [*, errW_none, errW_some] <;> rfl), zB⟩
  subst c6
  have H1 : (some (wrap64 (a0_0 * (wrap64 (a1 - a0_1))))) = some r := by rw [if_pos rfl] at H; exact H
  clear H
  have H := H1
  clear H1
  obtain rfl := Option.some.inj H
  go_enter Try.func22, Try.ntmps22
  go_wp2_with (first | ((with_reducible refine gate_dst (N := 2) rfl ?_); refine box_event ?hg (N := 2) ?hd (cs := #[.int .i64 a0_0, .int .i64 a0_1]) (t := 45) ?hr ?_; (case hd => rfl); (case hg => rfl); (case hr => first | (go_simp; done) | (go_simp; rfl)); intro gb258 hg w7 hbox hb; have n0_ := zK (zp zB hb); have n1_ := zK (hbox); have n2_ := zK ((by rw [hg]; exact (zz zB) : w.heap.size ≤ gb258)); have n3_ := zK ((by rw [hg]; exact (zz zB) : w.heap.size ≤ gb258)); clear HB; have HB := n0_; have BK258 := n1_; have GW258 := n2_; have GE258 := n3_; clear n0_ n1_ n2_ n3_; clear hb hbox hg; have hcz8_0 : w7.cell? ⟨gb258, 0, none⟩ = some (.int .i64 a0_0) := (zc BK258.out 0).trans rfl; have hcz8_1 : w7.cell? ⟨gb258, 1, none⟩ = some (.int .i64 a0_1) := (zc BK258.out 1).trans rfl; have hfz8_0 := zf BK258.out 0; have hfz8_1 := zf BK258.out 1) | ((with_reducible refine gate_callee (f := 76) rfl ?_); refine goesL_ (some 6) rfl rfl Try.func76 (by kernel_rfl) rfl #[.agg #[.int .i64 a0_0, .int .i64 a0_1]] rfl zL ?_; (with_reducible refine (impl_ScaleOk.calls a0_0 a0_1 true _ A3.out).mono ?_); rintro e w9 ⟨rfl, hb⟩; refine ⟨_, rfl, ?_⟩; have n0_ := zK (zg (g := gb258) (o := .cells #[.int .i64 a0_0, .int .i64 a0_1] 45 (0, 0)) (by (with_reducible repeat (first | refine zn ?_ _ | refine zd ?_ | refine za ?_ _)); exact BK258.out) hb); have n1_ := zK (zp zB hb); clear BK258; clear HB; have BK258 := n0_; have HB := n1_; clear n0_ n1_; (try clear hb); (try clear hb2); (try clear hk); (try clear hi)) | (go_at_call 66; (with_reducible refine (impl_isByte.calls a1 true _ A5.out).mono ?_); rintro e w' ⟨rfl, ⟨nd, rfl⟩⟩; have hcz10_0 : w9.cell? ⟨gb258, 0, none⟩ = some (.int .i64 a0_0) := (zc BK258.out 0).trans rfl; have hcz10_1 : w9.cell? ⟨gb258, 1, none⟩ = some (.int .i64 a0_1) := (zc BK258.out 1).trans rfl; have hfz10_0 := zf BK258.out 0; have hfz10_1 := zf BK258.out 1))
  go_ret
  exact ⟨by first | rfl | (simp [errW_none, errW_some] <;> rfl) | (simp [*, errW_none, errW_some] <;> rfl), zB⟩

/-! ### impl_Bound: function 23 -/
mutual
def impl_Bound.j0 : Nat → Int → Int → Int → Bool → Int → Int → Int → Int → Int → Int → Option (Int)
  | 0, _, _, _, _, _, _, _, _, _, _ => none
  | k + 1, x0, x4, x5, x28, x262000, x262001, x263000, x263001, x264000, x264001 => if x28 = true then (some 0) else ((some (([(⟨x262000, x262001⟩ : S45), (⟨x263000, x263001⟩ : S45), (⟨x264000, x264001⟩ : S45)] : List (S45)) : List (S45))).bind fun y267 => (impl_Bound.l0 k x0 x4 x5 y267 (y267.length : Int) 0 x262000 x262001 x263000 x263001 x264000 x264001))
def impl_Bound.l0 : Nat → Int → Int → Int → List (S45) → Int → Int → Int → Int → Int → Int → Int → Int → Option (Int)
  | 0, _, _, _, _, _, _, _, _, _, _, _, _ => none
  | k + 1, x0, x4, x5, x32, x33, x34, x262000, x262001, x263000, x263001, x264000, x264001 => if x34 < x33 then (if 0 ≤ x34 then (if x34 < (x32.length : Int) then ((impl_ScaleOk.f ((rd_T45 x32 x34).f0) ((rd_T45 x32 x34).f1)).bind fun t272 => (if t272 = true then (if ((rd_T45 x32 x34).f0) > 16777216 then (some 0) else (impl_Bound.l0 k x0 x4 x5 x32 x33 (wrap64 (x34 + 1)) x262000 x262001 x263000 x263001 x264000 x264001)) else (some 0))) else (none)) else (none)) else (some (wrap64 ((wrap64 ((wrap64 (Int.tdiv (wrap64 ((wrap64 (x0 * (wrap64 ((wrap64 ((wrap64 (x4 * (wrap64 (x263000 + 1)))) + (wrap64 (x5 * (wrap64 (x262000 + 1)))))) + (wrap64 ((wrap64 (x262000 + 1)) * (wrap64 (x263000 + 1)))))))) + 65535)) 65536)) + (wrap64 (2 * x264000)))) + 2)))
end
def impl_Bound.f (k : Nat) (a0 : Int) (a1_0 : Int) (a1_1 : Int) (a2_0 : Int) (a2_1 : Int) (a3_0 : Int) (a3_1 : Int) (a4 : Int) (a5 : Int) : Option (Int) := (impl_within.f a0 1 4096).bind fun t264 => (if t264 = true then ((impl_within.f a4 0 16777216).bind fun t265 => (if t265 = true then ((impl_within.f a5 0 16777216).bind fun t266 => (impl_Bound.j0 k a0 a4 a5 (!t266) a1_0 a1_1 a2_0 a2_1 a3_0 a3_1)) else (impl_Bound.j0 k a0 a4 a5 true a1_0 a1_1 a2_0 a2_1 a3_0 a3_1))) else (impl_Bound.j0 k a0 a4 a5 true a1_0 a1_1 a2_0 a2_1 a3_0 a3_1))
theorem impl_Bound.mono_l : ∀ k, (∀ y0 y1 y2 y3 y4 y5 y6 y7 y8 y9, LeO (impl_Bound.j0 k y0 y1 y2 y3 y4 y5 y6 y7 y8 y9) (impl_Bound.j0 (k + 1) y0 y1 y2 y3 y4 y5 y6 y7 y8 y9)) ∧ (∀ y0 y1 y2 y3 y4 y5 y6 y7 y8 y9 y10 y11, LeO (impl_Bound.l0 k y0 y1 y2 y3 y4 y5 y6 y7 y8 y9 y10 y11) (impl_Bound.l0 (k + 1) y0 y1 y2 y3 y4 y5 y6 y7 y8 y9 y10 y11))
  | 0 => ⟨fun _ _ _ _ _ _ _ _ _ _ r h => by simp [impl_Bound.j0] at h, fun _ _ _ _ _ _ _ _ _ _ _ _ r h => by simp [impl_Bound.l0] at h⟩
  | k + 1 => by
    obtain ⟨ih0, ih1⟩ := impl_Bound.mono_l k
    refine ⟨?_, ?_⟩
    · intro y0 y1 y2 y3 y4 y5 y6 y7 y8 y9
      unfold impl_Bound.j0
      repeat' first
      | (with_reducible exact ih0 _ _ _ _ _ _ _ _ _ _)
      | (with_reducible exact ih1 _ _ _ _ _ _ _ _ _ _ _ _)
      | (with_reducible exact LeO.refl _)
      | (with_reducible exact LeO.none _)
      | (with_reducible refine LeO.ite ?_ ?_)
      | (with_reducible refine LeO.bind ?_ (fun _ => ?_))
      | exact ih0 _ _ _ _ _ _ _ _ _ _
      | exact ih1 _ _ _ _ _ _ _ _ _ _ _ _
      | exact LeO.none _
      | refine LeO.ite ?_ ?_
      | refine LeO.bind ?_ (fun _ => ?_)
    · intro y0 y1 y2 y3 y4 y5 y6 y7 y8 y9 y10 y11
      unfold impl_Bound.l0
      repeat' first
      | (with_reducible exact ih0 _ _ _ _ _ _ _ _ _ _)
      | (with_reducible exact ih1 _ _ _ _ _ _ _ _ _ _ _ _)
      | (with_reducible exact LeO.refl _)
      | (with_reducible exact LeO.none _)
      | (with_reducible refine LeO.ite ?_ ?_)
      | (with_reducible refine LeO.bind ?_ (fun _ => ?_))
      | exact ih0 _ _ _ _ _ _ _ _ _ _
      | exact ih1 _ _ _ _ _ _ _ _ _ _ _ _
      | exact LeO.none _
      | refine LeO.ite ?_ ?_
      | refine LeO.bind ?_ (fun _ => ?_)
theorem impl_Bound.mono : ∀ a0 a1 a2 a3 a4 a5 a6 a7 a8 k, LeO (impl_Bound.f k a0 a1 a2 a3 a4 a5 a6 a7 a8) (impl_Bound.f (k + 1) a0 a1 a2 a3 a4 a5 a6 a7 a8) := by
  intro a0 a1 a2 a3 a4 a5 a6 a7 a8 k
  obtain ⟨ih0, ih1⟩ := impl_Bound.mono_l k
  unfold impl_Bound.f
  repeat' first
      | (with_reducible exact ih0 _ _ _ _ _ _ _ _ _ _)
      | (with_reducible exact ih1 _ _ _ _ _ _ _ _ _ _ _ _)
      | (with_reducible exact LeO.refl _)
      | (with_reducible exact LeO.none _)
      | (with_reducible refine LeO.ite ?_ ?_)
      | (with_reducible refine LeO.bind ?_ (fun _ => ?_))
      | exact ih0 _ _ _ _ _ _ _ _ _ _
      | exact ih1 _ _ _ _ _ _ _ _ _ _ _ _
      | exact LeO.none _
      | refine LeO.ite ?_ ?_
      | refine LeO.bind ?_ (fun _ => ?_)
set_option maxHeartbeats 8000000 in
set_option maxRecDepth 100000 in
theorem impl_Bound.calls (k : Nat) (a0 : Int) (a1_0 : Int) (a1_1 : Int) (a2_0 : Int) (a2_1 : Int) (a3_0 : Int) (a3_1 : Int) (a4 : Int) (a5 : Int) (r : Int) (w : World) (h : impl_Bound.f k a0 a1_0 a1_1 a2_0 a2_1 a3_0 a3_1 a4 a5 = some r) :
    Calls Try.prog 23 #[.int .i64 a0, .agg #[.int .i64 a1_0, .int .i64 a1_1], .agg #[.int .i64 a2_0, .int .i64 a2_1], .agg #[.int .i64 a3_0, .int .i64 a3_1], .int .i64 a4, .int .i64 a5] w fun e w' => e = .returned (.int .i64 r) ∧ Below w.heap.size w w' := by
  have hu45 := Try.underlying45
  have HB := zK (Below.refl w.heap.size w)
  have H : ((impl_within.f a0 1 4096).bind fun t264 => (if t264 = true then ((impl_within.f a4 0 16777216).bind fun t265 => (if t265 = true then ((impl_within.f a5 0 16777216).bind fun t266 => (impl_Bound.j0 k a0 a4 a5 (!t266) a1_0 a1_1 a2_0 a2_1 a3_0 a3_1)) else (impl_Bound.j0 k a0 a4 a5 true a1_0 a1_1 a2_0 a2_1 a3_0 a3_1))) else (impl_Bound.j0 k a0 a4 a5 true a1_0 a1_1 a2_0 a2_1 a3_0 a3_1))) = some r := h
  clear h
  have HC7 := zK H
  clear H
  go_enter Try.func23, Try.ntmps23
  go_upto_region 1 with (first | ((with_reducible refine gate_dst (N := 7) rfl ?_); refine box_event ?hg (N := 7) ?hd (cs := #[.int .i64 a1_0, .int .i64 a1_1]) (t := 45) ?hr ?_; (case hd => rfl); (case hg => rfl); (case hr => first | (go_simp; done) | (go_simp; rfl)); intro gb261 hg w8 hbox hb; have n0_ := zK (zp zB hb); have n1_ := zK (hbox); have n2_ := zK ((by rw [hg]; exact (zz zB) : w.heap.size ≤ gb261)); have n3_ := zK ((by rw [hg]; exact (zz zB) : w.heap.size ≤ gb261)); clear HB; have HB := n0_; have BK261 := n1_; have GW261 := n2_; have GE261 := n3_; clear n0_ n1_ n2_ n3_; clear hb hbox hg) | ((with_reducible refine gate_dst (N := 8) rfl ?_); refine box_event ?hg (N := 8) ?hd (cs := #[.int .i64 a2_0, .int .i64 a2_1]) (t := 45) ?hr ?_; (case hd => rfl); (case hg => rfl); (case hr => first | (go_simp; done) | (go_simp; rfl)); intro gb262 hg w9 hbox hb; have n0_ := zK (zg (g := gb261) (o := .cells #[.int .i64 a1_0, .int .i64 a1_1] 45 (0, 0)) (by (with_reducible repeat (first | refine zn ?_ _ | refine zd ?_ | refine za ?_ _)); exact BK261.out) hb); have n1_ := zK (zp zB hb); have n2_ := zK (hbox); have n3_ := zK ((by rw [hg]; exact (zz zB) : w.heap.size ≤ gb262)); have n4_ := zK ((by rw [hg]; exact (zz zB) : w.heap.size ≤ gb262)); have n5_ := zK ((by rw [hg]; exact Nat.ne_of_lt (blk_lt (g := gb261) (o := .cells #[.int .i64 a1_0, .int .i64 a1_1] 45 (0, 0)) (by (with_reducible repeat (first | refine zn ?_ _ | refine zd ?_ | refine za ?_ _)); exact BK261.out)) : gb261 ≠ gb262)); have n6_ := zK ((by rw [hg]; exact Nat.ne_of_gt (blk_lt (g := gb261) (o := .cells #[.int .i64 a1_0, .int .i64 a1_1] 45 (0, 0)) (by (with_reducible repeat (first | refine zn ?_ _ | refine zd ?_ | refine za ?_ _)); exact BK261.out)) : gb262 ≠ gb261)); clear BK261; clear HB; have BK261 := n0_; have HB := n1_; have BK262 := n2_; have GW262 := n3_; have GE262 := n4_; have NB261_262 := n5_; have NB262_261 := n6_; clear n0_ n1_ n2_ n3_ n4_ n5_ n6_; clear hb hbox hg) | ((with_reducible refine gate_dst (N := 9) rfl ?_); refine box_event ?hg (N := 9) ?hd (cs := #[.int .i64 a3_0, .int .i64 a3_1]) (t := 45) ?hr ?_; (case hd => rfl); (case hg => rfl); (case hr => first | (go_simp; done) | (go_simp; rfl)); intro gb263 hg w10 hbox hb; have n0_ := zK (zg (g := gb261) (o := .cells #[.int .i64 a1_0, .int .i64 a1_1] 45 (0, 0)) (by (with_reducible repeat (first | refine zn ?_ _ | refine zd ?_ | refine za ?_ _)); exact BK261.out) hb); have n1_ := zK (zg (g := gb262) (o := .cells #[.int .i64 a2_0, .int .i64 a2_1] 45 (0, 0)) (by (with_reducible repeat (first | refine zn ?_ _ | refine zd ?_ | refine za ?_ _)); exact BK262.out) hb); have n2_ := zK (zp zB hb); have n3_ := zK (hbox); have n4_ := zK ((by rw [hg]; exact (zz zB) : w.heap.size ≤ gb263)); have n5_ := zK ((by rw [hg]; exact (zz zB) : w.heap.size ≤ gb263)); have n6_ := zK ((by rw [hg]; exact Nat.ne_of_lt (blk_lt (g := gb261) (o := .cells #[.int .i64 a1_0, .int .i64 a1_1] 45 (0, 0)) (by (with_reducible repeat (first | refine zn ?_ _ | refine zd ?_ | refine za ?_ _)); exact BK261.out)) : gb261 ≠ gb263)); have n7_ := zK ((by rw [hg]; exact Nat.ne_of_gt (blk_lt (g := gb261) (o := .cells #[.int .i64 a1_0, .int .i64 a1_1] 45 (0, 0)) (by (with_reducible repeat (first | refine zn ?_ _ | refine zd ?_ | refine za ?_ _)); exact BK261.out)) : gb263 ≠ gb261)); have n8_ := zK ((by rw [hg]; exact Nat.ne_of_lt (blk_lt (g := gb262) (o := .cells #[.int .i64 a2_0, .int .i64 a2_1] 45 (0, 0)) (by (with_reducible repeat (first | refine zn ?_ _ | refine zd ?_ | refine za ?_ _)); exact BK262.out)) : gb262 ≠ gb263)); have n9_ := zK ((by rw [hg]; exact Nat.ne_of_gt (blk_lt (g := gb262) (o := .cells #[.int .i64 a2_0, .int .i64 a2_1] 45 (0, 0)) (by (with_reducible repeat (first | refine zn ?_ _ | refine zd ?_ | refine za ?_ _)); exact BK262.out)) : gb263 ≠ gb262)); clear BK261; clear BK262; clear HB; have BK261 := n0_; have BK262 := n1_; have HB := n2_; have BK263 := n3_; have GW263 := n4_; have GE263 := n5_; have NB261_263 := n6_; have NB263_261 := n7_; have NB262_263 := n8_; have NB263_262 := n9_; clear n0_ n1_ n2_ n3_ n4_ n5_ n6_ n7_ n8_ n9_; clear hb hbox hg))
  (try simp only [Act.put, List.setIfInBounds_toArray, List.set_cons_zero, List.set_cons_succ])
  go_cut [28] (fun v28 wc => ∃ (kq : Nat) (x28_6 : Bool), v28 = .bool x28_6 ∧ Aside0 (impl_Bound.j0 kq a0 a4 a5 x28_6 a1_0 a1_1 a2_0 a2_1 a3_0 a3_1 = some r) ∧ Aside0 (kq ≤ k) ∧ Aside0 (wc.heap[gb261]? = some (.cells #[.int .i64 a1_0, .int .i64 a1_1] 45 (0, 0))) ∧ Aside0 (wc.heap[gb262]? = some (.cells #[.int .i64 a2_0, .int .i64 a2_1] 45 (0, 0))) ∧ Aside0 (wc.heap[gb263]? = some (.cells #[.int .i64 a3_0, .int .i64 a3_1] 45 (0, 0))) ∧ Aside0 (Below w.heap.size w wc))
  case first =>
   have H := HC7.out
   clear HC7
   replace H := Option.bind_eq_some_iff.mp H
   obtain ⟨t264, A110, H⟩ := H
   replace H : (if t264 = true then ((impl_within.f a4 0 16777216).bind fun t265 => (if t265 = true then ((impl_within.f a5 0 16777216).bind fun t266 => (impl_Bound.j0 k a0 a4 a5 (!t266) a1_0 a1_1 a2_0 a2_1 a3_0 a3_1)) else (impl_Bound.j0 k a0 a4 a5 true a1_0 a1_1 a2_0 a2_1 a3_0 a3_1))) else (impl_Bound.j0 k a0 a4 a5 true a1_0 a1_1 a2_0 a2_1 a3_0 a3_1)) = some r := H
   have A11 := zK A110
   clear A110
   by_cases c12 : t264 = true
   rotate_left
   · replace c12 := Bool.eq_false_iff.mpr c12
     subst c12
     have H1 : (impl_Bound.j0 k a0 a4 a5 true a1_0 a1_1 a2_0 a2_1 a3_0 a3_1) = some r := by rw [if_neg (show ¬ (false = true) by decide)] at H; exact H
     clear H
     have H := H1
     clear H1
     have H' := zK H
     clear H
     go_wp2_with (first | ((with_reducible refine gate_callee (f := 65) rfl ?_); refine goesL_ (some 17) rfl rfl Try.func65 (by kernel_rfl) rfl #[.int .i64 a0, .int .i64 1, .int .i64 4096] rfl zL ?_; (with_reducible refine (impl_within.calls a0 1 4096 false _ A11.out).mono ?_); rintro e w' ⟨rfl, ⟨nd, rfl⟩⟩; refine ⟨_, rfl, ?_⟩))
     go_meet
     case rel => exact ⟨_, (true), zR, H', ⟨by first | omega | exact Nat.le_refl _⟩, ⟨by (with_reducible repeat (first | refine zn ?_ _ | refine zd ?_ | refine za ?_ _)); exact BK261.out⟩, ⟨by (with_reducible repeat (first | refine zn ?_ _ | refine zd ?_ | refine za ?_ _)); exact BK262.out⟩, ⟨by (with_reducible repeat (first | refine zn ?_ _ | refine zd ?_ | refine za ?_ _)); exact BK263.out⟩, ⟨zB⟩⟩
   subst c12
   have H1 : ((impl_within.f a4 0 16777216).bind fun t265 => (if t265 = true then ((impl_within.f a5 0 16777216).bind fun t266 => (impl_Bound.j0 k a0 a4 a5 (!t266) a1_0 a1_1 a2_0 a2_1 a3_0 a3_1)) else (impl_Bound.j0 k a0 a4 a5 true a1_0 a1_1 a2_0 a2_1 a3_0 a3_1))) = some r := by rw [if_pos rfl] at H; exact H
   clear H
   have H := H1
   clear H1
   replace H := Option.bind_eq_some_iff.mp H
   obtain ⟨t265, A130, H⟩ := H
   replace H : (if t265 = true then ((impl_within.f a5 0 16777216).bind fun t266 => (impl_Bound.j0 k a0 a4 a5 (!t266) a1_0 a1_1 a2_0 a2_1 a3_0 a3_1)) else (impl_Bound.j0 k a0 a4 a5 true a1_0 a1_1 a2_0 a2_1 a3_0 a3_1)) = some r := H
   have A13 := zK A130
   clear A130
   by_cases c14 : t265 = true
   rotate_left
   · replace c14 := Bool.eq_false_iff.mpr c14
     subst c14
     have H1 : (impl_Bound.j0 k a0 a4 a5 true a1_0 a1_1 a2_0 a2_1 a3_0 a3_1) = some r := by rw [if_neg (show ¬ (false = true) by decide)] at H; exact H
     clear H
     have H := H1
     clear H1
     have H' := zK H
     clear H
     go_wp2_with (first | ((with_reducible refine gate_callee (f := 65) rfl ?_); refine goesL_ (some 17) rfl rfl Try.func65 (by kernel_rfl) rfl #[.int .i64 a0, .int .i64 1, .int .i64 4096] rfl zL ?_; (with_reducible refine (impl_within.calls a0 1 4096 true _ A11.out).mono ?_); rintro e w' ⟨rfl, ⟨nd, rfl⟩⟩; refine ⟨_, rfl, ?_⟩) | (go_at_call 65; (with_reducible refine (impl_within.calls a4 0 16777216 false _ A13.out).mono ?_); rintro e w' ⟨rfl, ⟨nd, rfl⟩⟩))
     go_meet
     case rel => exact ⟨_, (true), zR, H', ⟨by first | omega | exact Nat.le_refl _⟩, ⟨by (with_reducible repeat (first | refine zn ?_ _ | refine zd ?_ | refine za ?_ _)); exact BK261.out⟩, ⟨by (with_reducible repeat (first | refine zn ?_ _ | refine zd ?_ | refine za ?_ _)); exact BK262.out⟩, ⟨by (with_reducible repeat (first | refine zn ?_ _ | refine zd ?_ | refine za ?_ _)); exact BK263.out⟩, ⟨zB⟩⟩
   subst c14
   have H1 : ((impl_within.f a5 0 16777216).bind fun t266 => (impl_Bound.j0 k a0 a4 a5 (!t266) a1_0 a1_1 a2_0 a2_1 a3_0 a3_1)) = some r := by rw [if_pos rfl] at H; exact H
   clear H
   have H := H1
   clear H1
   replace H := Option.bind_eq_some_iff.mp H
   obtain ⟨t266, A150, H⟩ := H
   replace H : (impl_Bound.j0 k a0 a4 a5 (!t266) a1_0 a1_1 a2_0 a2_1 a3_0 a3_1) = some r := H
   have A15 := zK A150
   clear A150
   have H' := zK H
   clear H
   go_wp2_with (first | ((with_reducible refine gate_callee (f := 65) rfl ?_); refine goesL_ (some 17) rfl rfl Try.func65 (by kernel_rfl) rfl #[.int .i64 a0, .int .i64 1, .int .i64 4096] rfl zL ?_; (with_reducible refine (impl_within.calls a0 1 4096 true _ A11.out).mono ?_); rintro e w' ⟨rfl, ⟨nd, rfl⟩⟩; refine ⟨_, rfl, ?_⟩) | (go_at_call 65; (with_reducible refine (impl_within.calls a4 0 16777216 true _ A13.out).mono ?_); rintro e w' ⟨rfl, ⟨nd, rfl⟩⟩) | (go_at_call 65; (with_reducible refine (impl_within.calls a5 0 16777216 t266 _ A15.out).mono ?_); rintro e w' ⟨rfl, ⟨nd, rfl⟩⟩))
   go_meet
   case rel => exact ⟨_, (!t266), zR, H', ⟨by first | omega | exact Nat.le_refl _⟩, ⟨by (with_reducible repeat (first | refine zn ?_ _ | refine zd ?_ | refine za ?_ _)); exact BK261.out⟩, ⟨by (with_reducible repeat (first | refine zn ?_ _ | refine zd ?_ | refine za ?_ _)); exact BK262.out⟩, ⟨by (with_reducible repeat (first | refine zn ?_ _ | refine zd ?_ | refine za ?_ _)); exact BK263.out⟩, ⟨zB⟩⟩
  case rest =>
   clear HC7
   try clear c1
   try clear c2
   try clear p2
   try clear c6
   try clear c12
   try clear c14
   obtain ⟨kq, x28_6, rfl, HA, HJ6, BK261, BK262, BK263, HB⟩ := hcut
   cases kq with
   | zero => exact absurd HA.out (by simp [impl_Bound.j0])
   | succ kj6 =>
    have H := HA.out
    clear HA
    simp only [impl_Bound.j0] at H
    by_cases c16 : x28_6 = true
    · subst c16
      have H1 : (some 0) = some r := by rw [if_pos rfl] at H; exact H
      clear H
      have H := H1
      clear H1
      obtain rfl := Option.some.inj H
      go_wp2
      go_ret
      exact ⟨by first | rfl | (simp [errW_none, errW_some] <;> rfl) | (simp [*, errW_none, errW_some] <;> rfl), zB⟩
    replace c16 := Bool.eq_false_iff.mpr c16
    subst c16
    have H1 : ((some (([(⟨a1_0, a1_1⟩ : S45), (⟨a2_0, a2_1⟩ : S45), (⟨a3_0, a3_1⟩ : S45)] : List (S45)) : List (S45))).bind fun y267 => (impl_Bound.l0 kj6 a0 a4 a5 y267 (y267.length : Int) 0 a1_0 a1_1 a2_0 a2_1 a3_0 a3_1)) = some r := by rw [if_neg (show ¬ (false = true) by decide)] at H; exact H
    clear H
    have H := H1
    clear H1
    obtain ⟨y267, hy267⟩ : ∃ y_ : List (S45), y_ = (([(⟨a1_0, a1_1⟩ : S45), (⟨a2_0, a2_1⟩ : S45), (⟨a3_0, a3_1⟩ : S45)] : List (S45))) := ⟨_, rfl⟩
    replace H : (impl_Bound.l0 kj6 a0 a4 a5 y267 (y267.length : Int) 0 a1_0 a1_1 a2_0 a2_1 a3_0 a3_1) = some r := by first | (rw [hy267]; with_reducible exact H) | (have H2_ := (Option.bind_some _ _).symm.trans H; rw [hy267]; with_reducible exact H2_) | (have H2_ := (Option.bind_some _ _).symm.trans H; with_reducible exact H2_) | with_reducible exact H | (rw [hy267]; exact H) | exact H
    have Ny267 := zK hy267
    clear hy267
    have H' := zK H
    clear H
    have hnb17 := NB261_262.out
    have hnc17 := NB262_261.out
    have hnb18 := NB261_263.out
    have hnc18 := NB263_261.out
    have hcz19_0 : wc.cell? ⟨gb261, 0, none⟩ = some (.int .i64 a1_0) := (zc BK261.out 0).trans rfl
    have hcz19_1 : wc.cell? ⟨gb261, 1, none⟩ = some (.int .i64 a1_1) := (zc BK261.out 1).trans rfl
    have hfz19_0 := zf BK261.out 0
    have hfz19_1 := zf BK261.out 1
    have hnb20 := NB262_263.out
    have hnc20 := NB263_262.out
    have hcz21_0 : wc.cell? ⟨gb262, 0, none⟩ = some (.int .i64 a2_0) := (zc BK262.out 0).trans rfl
    have hcz21_1 : wc.cell? ⟨gb262, 1, none⟩ = some (.int .i64 a2_1) := (zc BK262.out 1).trans rfl
    have hfz21_0 := zf BK262.out 0
    have hfz21_1 := zf BK262.out 1
    have hcz22_0 : wc.cell? ⟨gb263, 0, none⟩ = some (.int .i64 a3_0) := (zc BK263.out 0).trans rfl
    have hcz22_1 : wc.cell? ⟨gb263, 1, none⟩ = some (.int .i64 a3_1) := (zc BK263.out 1).trans rfl
    have hfz22_0 := zf BK263.out 0
    have hfz22_1 := zf BK263.out 1
    go_wp2_with (first | ((with_reducible refine gate_dst (N := 32) rfl ?_); refine Kd.R_lit k45 _ 45 ?hg (N := 32) ?hd (xs := ([(⟨a1_0, a1_1⟩ : S45), (⟨a2_0, a2_1⟩ : S45), (⟨a3_0, a3_1⟩ : S45)] : List (S45))) (inner := [.int .i64 a1_0, .int .i64 a1_1, .int .i64 a2_0, .int .i64 a2_1, .int .i64 a3_0, .int .i64 a3_1]) (ok := fun _ => True) (okp := fun _ => True) ?hr ?hp (fun _ hk => hk) trivial (Below.refl _ _) (Nat.le_refl _) (by simp) ?_; (case hd => rfl); (case hg => rfl); (case hr => first | (go_simp; done) | (go_simp; rfl)); (case hp => exact (Reps.c2 (show Kd.M k45 _ _ _ (⟨a1_0, a1_1⟩ : S45) [.int .i64 a1_0, .int .i64 a1_1] from (k45_mkM _ _ _ (⟨a1_0, a1_1⟩ : S45) )) (Reps.c2 (show Kd.M k45 _ _ _ (⟨a2_0, a2_1⟩ : S45) [.int .i64 a2_0, .int .i64 a2_1] from (k45_mkM _ _ _ (⟨a2_0, a2_1⟩ : S45) )) (Reps.c2 (show Kd.M k45 _ _ _ (⟨a3_0, a3_1⟩ : S45) [.int .i64 a3_0, .int .i64 a3_1] from (k45_mkM _ _ _ (⟨a3_0, a3_1⟩ : S45) )) (Reps.none _ _))))); intro v268 w23 ho24 hb hg_ hnew_; clear hg_ hnew_; (first | rw [← Ny267.out] at ho24 | (simp only [Int.reduceToNat] at ho24; rw [← Ny267.out] at ho24)); have n0_ := zK (Kd.R_lower (Kd.R_newB (Kd.R_newB (Kd.R_newB ho24 (g := gb261) (o := .cells #[.int .i64 a1_0, .int .i64 a1_1] 45 (0, 0)) (by (with_reducible repeat (first | refine zn ?_ _ | refine zd ?_ | refine za ?_ _)); exact BK261.out)) (g := gb262) (o := .cells #[.int .i64 a2_0, .int .i64 a2_1] 45 (0, 0)) (by (with_reducible repeat (first | refine zn ?_ _ | refine zd ?_ | refine za ?_ _)); exact BK262.out)) (g := gb263) (o := .cells #[.int .i64 a3_0, .int .i64 a3_1] 45 (0, 0)) (by (with_reducible repeat (first | refine zn ?_ _ | refine zd ?_ | refine za ?_ _)); exact BK263.out)) (zz zB)); have n1_ := zK (zg (g := gb261) (o := .cells #[.int .i64 a1_0, .int .i64 a1_1] 45 (0, 0)) (by (with_reducible repeat (first | refine zn ?_ _ | refine zd ?_ | refine za ?_ _)); exact BK261.out) hb); have n2_ := zK (zg (g := gb262) (o := .cells #[.int .i64 a2_0, .int .i64 a2_1] 45 (0, 0)) (by (with_reducible repeat (first | refine zn ?_ _ | refine zd ?_ | refine za ?_ _)); exact BK262.out) hb); have n3_ := zK (zg (g := gb263) (o := .cells #[.int .i64 a3_0, .int .i64 a3_1] 45 (0, 0)) (by (with_reducible repeat (first | refine zn ?_ _ | refine zd ?_ | refine za ?_ _)); exact BK263.out) hb); have n4_ := zK (zp zB hb); clear BK261; clear BK262; clear BK263; clear HB; have HO269 := n0_; have BK261 := n1_; have BK262 := n2_; have BK263 := n3_; have HB := n4_; clear n0_ n1_ n2_ n3_ n4_; clear hb ho24; obtain ⟨Ao25, co25, eo25⟩ := Kd.R_slice HO269.out; subst eo25))
    go_loopg [34] kj6 (fun kq v34 w' => ∃ (x34_2 : Int), v34 = .int .i64 x34_2 ∧ Aside0 (impl_Bound.l0 kq a0 a4 a5 y267 (y267.length : Int) x34_2 a1_0 a1_1 a2_0 a2_1 a3_0 a3_1 = some r) ∧ Aside0 (kq ≤ kj6) ∧ Aside0 (Kd.R k45 45 w' w.heap.size (fun k_ => k_ ≠ gb261 ∧ k_ ≠ gb262 ∧ k_ ≠ gb263) (.slice Ao25 y267.length co25) y267) ∧ Aside0 (w'.heap[gb261]? = some (.cells #[.int .i64 a1_0, .int .i64 a1_1] 45 (0, 0))) ∧ Aside0 (w'.heap[gb262]? = some (.cells #[.int .i64 a2_0, .int .i64 a2_1] 45 (0, 0))) ∧ Aside0 (w'.heap[gb263]? = some (.cells #[.int .i64 a3_0, .int .i64 a3_1] 45 (0, 0))) ∧ Aside0 (Below w.heap.size w w'))
    case atStart => exact ⟨(0), zR, H', ⟨Nat.le_refl _⟩, ⟨by (with_reducible repeat (first | apply Kd.R_alloc | apply Kd.R_drewN | apply Kd.R_drew)); exact Kd.R_mono HO269.out (fun _ hk => ⟨hk.1.1.2, ⟨hk.1.2, hk.2⟩⟩)⟩, ⟨by (with_reducible repeat (first | refine zn ?_ _ | refine zd ?_ | refine za ?_ _)); exact BK261.out⟩, ⟨by (with_reducible repeat (first | refine zn ?_ _ | refine zd ?_ | refine za ?_ _)); exact BK262.out⟩, ⟨by (with_reducible repeat (first | refine zn ?_ _ | refine zd ?_ | refine za ?_ _)); exact BK263.out⟩, ⟨zB⟩⟩
    clear H'
    try clear c1
    try clear c2
    try clear p2
    try clear c6
    try clear c12
    try clear c14
    try clear c16
    try clear c17
    try clear c18
    try clear c20
    try clear c23
    try clear hcz19_0
    try clear hcz19_1
    try clear hcz21_0
    try clear hcz21_1
    try clear hcz22_0
    try clear hcz22_1
    try clear hfz19_0
    try clear hfz19_1
    try clear hfz21_0
    try clear hfz21_1
    try clear hfz22_0
    try clear hfz22_1
    try clear p2
    obtain ⟨x34_2, rfl, HA, HK2, HO_32, BK261, BK262, BK263, HB⟩ := hrel
    rcases gk with _ | k2
    · exact absurd HA.out (by simp [impl_Bound.l0])
    have H := HA.out
    clear HA
    simp only [impl_Bound.l0] at H
    by_cases c26 : x34_2 < (y267.length : Int)
    rotate_left
    · rw [if_neg c26] at H
      have c26b0 : decide (x34_2 < (y267.length : Int)) = false := decide_eq_false c26
      clear c26
      obtain rfl := Option.some.inj H
      have hnb52 := NB262_261.out
      have hnc52 := NB261_262.out
      have hnb53 := NB262_263.out
      have hnc53 := NB263_262.out
      have hcz54_0 : wr.cell? ⟨gb262, 0, none⟩ = some (.int .i64 a2_0) := (zc BK262.out 0).trans rfl
      have hcz54_1 : wr.cell? ⟨gb262, 1, none⟩ = some (.int .i64 a2_1) := (zc BK262.out 1).trans rfl
      have hfz54_0 := zf BK262.out 0
      have hfz54_1 := zf BK262.out 1
      have hnb55 := NB261_263.out
      have hnc55 := NB263_261.out
      have hcz56_0 : wr.cell? ⟨gb261, 0, none⟩ = some (.int .i64 a1_0) := (zc BK261.out 0).trans rfl
      have hcz56_1 : wr.cell? ⟨gb261, 1, none⟩ = some (.int .i64 a1_1) := (zc BK261.out 1).trans rfl
      have hfz56_0 := zf BK261.out 0
      have hfz56_1 := zf BK261.out 1
      have hcz57_0 : wr.cell? ⟨gb263, 0, none⟩ = some (.int .i64 a3_0) := (zc BK263.out 0).trans rfl
      have hcz57_1 : wr.cell? ⟨gb263, 1, none⟩ = some (.int .i64 a3_1) := (zc BK263.out 1).trans rfl
      have hfz57_0 := zf BK263.out 0
      have hfz57_1 := zf BK263.out 1
      go_wp2
      go_ret
      exact ⟨by first | rfl | (simp [errW_none, errW_some] <;> rfl) | (simp [*, errW_none, errW_some] <;> rfl), zB⟩
    rw [if_pos c26] at H
    have c26b0 : decide (x34_2 < (y267.length : Int)) = true := decide_eq_true c26
    clear c26
    by_cases c27 : 0 ≤ x34_2
    rotate_left
    · rw [if_neg c27] at H
      exact absurd H (by simp)
    rw [if_pos c27] at H
    have c27b0 : decide (0 ≤ x34_2) = true := decide_eq_true c27
    clear c27
    by_cases c28 : x34_2 < (y267.length : Int)
    rotate_left
    · rw [if_neg c28] at H
      exact absurd H (by simp)
    rw [if_pos c28] at H
    have c28b0 : decide (x34_2 < (y267.length : Int)) = true := decide_eq_true c28
    clear c28
    replace H := Option.bind_eq_some_iff.mp H
    obtain ⟨t272, A290, H⟩ := H
    replace H : (if t272 = true then (if ((rd_T45 y267 x34_2).f0) > 16777216 then (some 0) else (impl_Bound.l0 k2 a0 a4 a5 y267 (y267.length : Int) (wrap64 (x34_2 + 1)) a1_0 a1_1 a2_0 a2_1 a3_0 a3_1)) else (some 0)) = some r := H
    have A29 := zK A290
    clear A290
    by_cases c30 : t272 = true
    rotate_left
    · replace c30 := Bool.eq_false_iff.mpr c30
      subst c30
      have H1 : (some 0) = some r := by rw [if_neg (show ¬ (false = true) by decide)] at H; exact H
      clear H
      have H := H1
      clear H1
      obtain rfl := Option.some.inj H
      have p270 : 0 ≤ (x34_2 : Int) := of_decide_eq_true zA
      have q270 : x34_2 < (y267.length : Int) := of_decide_eq_true zA
      obtain ⟨ad270, e270, hx270_0, hx270_1⟩ := at_T45 (Kd.R_reads' HO_32.out).2.2 x34_2 p270 q270
      cases e270
      replace p270 := eq_true p270
      replace q270 := eq_true q270
      go_wp2_with (first | ((with_reducible refine gate_dst (N := 14) rfl ?_); refine box_event ?hg (N := 14) ?hd (cs := #[.int .i64 0, .int .i64 0]) (t := 45) ?hr ?_; (case hd => rfl); (case hg => rfl); (case hr => first | (go_simp; done) | (go_simp; rfl)); intro gb271 hg w46 hbox hb; have n0_ := zK (Kd.R_below (Kd.R_elderB (by (with_reducible repeat (first | apply Kd.R_alloc | apply Kd.R_drewN | apply Kd.R_drew)); exact HO_32.out) gb271 (Nat.le_of_eq hg.symm)) hb); have n1_ := zK (zg (g := gb261) (o := .cells #[.int .i64 a1_0, .int .i64 a1_1] 45 (0, 0)) (by (with_reducible repeat (first | refine zn ?_ _ | refine zd ?_ | refine za ?_ _)); exact BK261.out) hb); have n2_ := zK (zg (g := gb262) (o := .cells #[.int .i64 a2_0, .int .i64 a2_1] 45 (0, 0)) (by (with_reducible repeat (first | refine zn ?_ _ | refine zd ?_ | refine za ?_ _)); exact BK262.out) hb); have n3_ := zK (zg (g := gb263) (o := .cells #[.int .i64 a3_0, .int .i64 a3_1] 45 (0, 0)) (by (with_reducible repeat (first | refine zn ?_ _ | refine zd ?_ | refine za ?_ _)); exact BK263.out) hb); have n4_ := zK (zp zB hb); have n5_ := zK (hbox); have n6_ := zK ((by rw [hg]; exact (zz zB) : w.heap.size ≤ gb271)); have n7_ := zK ((by rw [hg]; exact (zz zB) : w.heap.size ≤ gb271)); have n8_ := zK ((by rw [hg]; exact Nat.ne_of_lt (blk_lt (g := gb261) (o := .cells #[.int .i64 a1_0, .int .i64 a1_1] 45 (0, 0)) (by (with_reducible repeat (first | refine zn ?_ _ | refine zd ?_ | refine za ?_ _)); exact BK261.out)) : gb261 ≠ gb271)); have n9_ := zK ((by rw [hg]; exact Nat.ne_of_gt (blk_lt (g := gb261) (o := .cells #[.int .i64 a1_0, .int .i64 a1_1] 45 (0, 0)) (by (with_reducible repeat (first | refine zn ?_ _ | refine zd ?_ | refine za ?_ _)); exact BK261.out)) : gb271 ≠ gb261)); have n10_ := zK ((by rw [hg]; exact Nat.ne_of_lt (blk_lt (g := gb262) (o := .cells #[.int .i64 a2_0, .int .i64 a2_1] 45 (0, 0)) (by (with_reducible repeat (first | refine zn ?_ _ | refine zd ?_ | refine za ?_ _)); exact BK262.out)) : gb262 ≠ gb271)); have n11_ := zK ((by rw [hg]; exact Nat.ne_of_gt (blk_lt (g := gb262) (o := .cells #[.int .i64 a2_0, .int .i64 a2_1] 45 (0, 0)) (by (with_reducible repeat (first | refine zn ?_ _ | refine zd ?_ | refine za ?_ _)); exact BK262.out)) : gb271 ≠ gb262)); have n12_ := zK ((by rw [hg]; exact Nat.ne_of_lt (blk_lt (g := gb263) (o := .cells #[.int .i64 a3_0, .int .i64 a3_1] 45 (0, 0)) (by (with_reducible repeat (first | refine zn ?_ _ | refine zd ?_ | refine za ?_ _)); exact BK263.out)) : gb263 ≠ gb271)); have n13_ := zK ((by rw [hg]; exact Nat.ne_of_gt (blk_lt (g := gb263) (o := .cells #[.int .i64 a3_0, .int .i64 a3_1] 45 (0, 0)) (by (with_reducible repeat (first | refine zn ?_ _ | refine zd ?_ | refine za ?_ _)); exact BK263.out)) : gb271 ≠ gb263)); clear HO_32; clear BK261; clear BK262; clear BK263; clear HB; have HO_32 := n0_; have BK261 := n1_; have BK262 := n2_; have BK263 := n3_; have HB := n4_; have BK271 := n5_; have GW271 := n6_; have GE271 := n7_; have NB261_271 := n8_; have NB271_261 := n9_; have NB262_271 := n10_; have NB271_262 := n11_; have NB263_271 := n12_; have NB271_263 := n13_; clear n0_ n1_ n2_ n3_ n4_ n5_ n6_ n7_ n8_ n9_ n10_ n11_ n12_ n13_; clear hb hbox hg; have hnb47 := NB271_261.out; have hnc47 := NB261_271.out; have hnb48 := NB271_262.out; have hnc48 := NB262_271.out; have hnb49 := NB271_263.out; have hnc49 := NB263_271.out; have hcz50_0 : w46.cell? ⟨gb271, 0, none⟩ = some (.int .i64 0) := (zc BK271.out 0).trans rfl; have hcz50_1 : w46.cell? ⟨gb271, 1, none⟩ = some (.int .i64 0) := (zc BK271.out 1).trans rfl; have hfz50_0 := zf BK271.out 0; have hfz50_1 := zf BK271.out 1) | ((with_reducible refine gate_callee (f := 76) rfl ?_); refine goesL_ (some 39) rfl rfl Try.func76 (by kernel_rfl) rfl #[.agg #[.int .i64 ((rd_T45 y267 x34_2).f0), .int .i64 ((rd_T45 y267 x34_2).f1)]] rfl zL ?_; (with_reducible refine (impl_ScaleOk.calls ((rd_T45 y267 x34_2).f0) ((rd_T45 y267 x34_2).f1) false _ A29.out).mono ?_); rintro e w51 ⟨rfl, hb⟩; refine ⟨_, rfl, ?_⟩; have n0_ := zK (Kd.R_below (by (with_reducible repeat (first | apply Kd.R_alloc | apply Kd.R_drewN | apply Kd.R_drew)); exact (Kd.R_mono (Kd.R_far (p := ⟨gb271, 1, none⟩) (Kd.R_far (p := ⟨gb271, 0, none⟩) (Kd.R_mono HO_32.out (fun k_ hk => (⟨hk, hk.2⟩ : _ ∧ k_ ≠ gb271))) (fun _ hk => hk.2) (.int .i64 ((rd_T45 y267 x34_2).f0))) (fun _ hk => hk.2) (.int .i64 ((rd_T45 y267 x34_2).f1))) (fun _ h_ => h_.1))) hb); have n1_ := zK (zg (g := gb261) (o := .cells #[.int .i64 a1_0, .int .i64 a1_1] 45 (0, 0)) (by (with_reducible repeat (first | refine zn ?_ _ | refine zd ?_ | refine za ?_ _)); refine blk_far ?_ NB261_271.out _; (with_reducible repeat (first | refine zn ?_ _ | refine zd ?_ | refine za ?_ _)); refine blk_far ?_ NB261_271.out _; (with_reducible repeat (first | refine zn ?_ _ | refine zd ?_ | refine za ?_ _)); exact BK261.out) hb); have n2_ := zK (zg (g := gb262) (o := .cells #[.int .i64 a2_0, .int .i64 a2_1] 45 (0, 0)) (by (with_reducible repeat (first | refine zn ?_ _ | refine zd ?_ | refine za ?_ _)); refine blk_far ?_ NB262_271.out _; (with_reducible repeat (first | refine zn ?_ _ | refine zd ?_ | refine za ?_ _)); refine blk_far ?_ NB262_271.out _; (with_reducible repeat (first | refine zn ?_ _ | refine zd ?_ | refine za ?_ _)); exact BK262.out) hb); have n3_ := zK (zg (g := gb263) (o := .cells #[.int .i64 a3_0, .int .i64 a3_1] 45 (0, 0)) (by (with_reducible repeat (first | refine zn ?_ _ | refine zd ?_ | refine za ?_ _)); refine blk_far ?_ NB263_271.out _; (with_reducible repeat (first | refine zn ?_ _ | refine zd ?_ | refine za ?_ _)); refine blk_far ?_ NB263_271.out _; (with_reducible repeat (first | refine zn ?_ _ | refine zd ?_ | refine za ?_ _)); exact BK263.out) hb); have n4_ := zK (zg (g := gb271) (o := .cells #[.int .i64 ((rd_T45 y267 x34_2).f0), .int .i64 ((rd_T45 y267 x34_2).f1)] 45 (0, 0)) (by (with_reducible repeat (first | refine zn ?_ _ | refine zd ?_ | refine za ?_ _)); refine blk_put (cs := #[.int .i64 ((rd_T45 y267 x34_2).f0), .int .i64 0]) ?_ 1 _ rfl; (with_reducible repeat (first | refine zn ?_ _ | refine zd ?_ | refine za ?_ _)); refine blk_put (cs := #[.int .i64 0, .int .i64 0]) ?_ 0 _ rfl; (with_reducible repeat (first | refine zn ?_ _ | refine zd ?_ | refine za ?_ _)); exact BK271.out) hb); have n5_ := zK (zp zB hb); clear HO_32; clear BK261; clear BK262; clear BK263; clear BK271; clear HB; have HO_32 := n0_; have BK261 := n1_; have BK262 := n2_; have BK263 := n3_; have BK271 := n4_; have HB := n5_; clear n0_ n1_ n2_ n3_ n4_ n5_; (try clear hb); (try clear hb2); (try clear hk); (try clear hi)))
      go_ret
      exact ⟨by first | rfl | (simp [errW_none, errW_some] <;> rfl) | (simp [*, errW_none, errW_some] <;> rfl), zB⟩
    subst c30
    have H1 : (if ((rd_T45 y267 x34_2).f0) > 16777216 then (some 0) else (impl_Bound.l0 k2 a0 a4 a5 y267 (y267.length : Int) (wrap64 (x34_2 + 1)) a1_0 a1_1 a2_0 a2_1 a3_0 a3_1)) = some r := by rw [if_pos rfl] at H; exact H
    clear H
    have H := H1
    clear H1
    by_cases c31 : ((rd_T45 y267 x34_2).f0) > 16777216
    · rw [if_pos c31] at H
      have c31b0 : decide (16777216 < ((rd_T45 y267 x34_2).f0)) = true := decide_eq_true c31
      clear c31
      obtain rfl := Option.some.inj H
      have p270 : 0 ≤ (x34_2 : Int) := of_decide_eq_true zA
      have q270 : x34_2 < (y267.length : Int) := of_decide_eq_true zA
      obtain ⟨ad270, e270, hx270_0, hx270_1⟩ := at_T45 (Kd.R_reads' HO_32.out).2.2 x34_2 p270 q270
      cases e270
      replace p270 := eq_true p270
      replace q270 := eq_true q270
      go_wp2_with (first | ((with_reducible refine gate_dst (N := 14) rfl ?_); refine box_event ?hg (N := 14) ?hd (cs := #[.int .i64 0, .int .i64 0]) (t := 45) ?hr ?_; (case hd => rfl); (case hg => rfl); (case hr => first | (go_simp; done) | (go_simp; rfl)); intro gb271 hg w32 hbox hb; have n0_ := zK (Kd.R_below (Kd.R_elderB (by (with_reducible repeat (first | apply Kd.R_alloc | apply Kd.R_drewN | apply Kd.R_drew)); exact HO_32.out) gb271 (Nat.le_of_eq hg.symm)) hb); have n1_ := zK (zg (g := gb261) (o := .cells #[.int .i64 a1_0, .int .i64 a1_1] 45 (0, 0)) (by (with_reducible repeat (first | refine zn ?_ _ | refine zd ?_ | refine za ?_ _)); exact BK261.out) hb); have n2_ := zK (zg (g := gb262) (o := .cells #[.int .i64 a2_0, .int .i64 a2_1] 45 (0, 0)) (by (with_reducible repeat (first | refine zn ?_ _ | refine zd ?_ | refine za ?_ _)); exact BK262.out) hb); have n3_ := zK (zg (g := gb263) (o := .cells #[.int .i64 a3_0, .int .i64 a3_1] 45 (0, 0)) (by (with_reducible repeat (first | refine zn ?_ _ | refine zd ?_ | refine za ?_ _)); exact BK263.out) hb); have n4_ := zK (zp zB hb); have n5_ := zK (hbox); have n6_ := zK ((by rw [hg]; exact (zz zB) : w.heap.size ≤ gb271)); have n7_ := zK ((by rw [hg]; exact (zz zB) : w.heap.size ≤ gb271)); have n8_ := zK ((by rw [hg]; exact Nat.ne_of_lt (blk_lt (g := gb261) (o := .cells #[.int .i64 a1_0, .int .i64 a1_1] 45 (0, 0)) (by (with_reducible repeat (first | refine zn ?_ _ | refine zd ?_ | refine za ?_ _)); exact BK261.out)) : gb261 ≠ gb271)); have n9_ := zK ((by rw [hg]; exact Nat.ne_of_gt (blk_lt (g := gb261) (o := .cells #[.int .i64 a1_0, .int .i64 a1_1] 45 (0, 0)) (by (with_reducible repeat (first | refine zn ?_ _ | refine zd ?_ | refine za ?_ _)); exact BK261.out)) : gb271 ≠ gb261)); have n10_ := zK ((by rw [hg]; exact Nat.ne_of_lt (blk_lt (g := gb262) (o := .cells #[.int .i64 a2_0, .int .i64 a2_1] 45 (0, 0)) (by (with_reducible repeat (first | refine zn ?_ _ | refine zd ?_ | refine za ?_ _)); exact BK262.out)) : gb262 ≠ gb271)); have n11_ := zK ((by rw [hg]; exact Nat.ne_of_gt (blk_lt (g := gb262) (o := .cells #[.int .i64 a2_0, .int .i64 a2_1] 45 (0, 0)) (by (with_reducible repeat (first | refine zn ?_ _ | refine zd ?_ | refine za ?_ _)); exact BK262.out)) : gb271 ≠ gb262)); have n12_ := zK ((by rw [hg]; exact Nat.ne_of_lt (blk_lt (g := gb263) (o := .cells #[.int .i64 a3_0, .int .i64 a3_1] 45 (0, 0)) (by (with_reducible repeat (first | refine zn ?_ _ | refine zd ?_ | refine za ?_ _)); exact BK263.out)) : gb263 ≠ gb271)); have n13_ := zK ((by rw [hg]; exact Nat.ne_of_gt (blk_lt (g := gb263) (o := .cells #[.int .i64 a3_0, .int .i64 a3_1] 45 (0, 0)) (by (with_reducible repeat (first | refine zn ?_ _ | refine zd ?_ | refine za ?_ _)); exact BK263.out)) : gb271 ≠ gb263)); clear HO_32; clear BK261; clear BK262; clear BK263; clear HB; have HO_32 := n0_; have BK261 := n1_; have BK262 := n2_; have BK263 := n3_; have HB := n4_; have BK271 := n5_; have GW271 := n6_; have GE271 := n7_; have NB261_271 := n8_; have NB271_261 := n9_; have NB262_271 := n10_; have NB271_262 := n11_; have NB263_271 := n12_; have NB271_263 := n13_; clear n0_ n1_ n2_ n3_ n4_ n5_ n6_ n7_ n8_ n9_ n10_ n11_ n12_ n13_; clear hb hbox hg; have hnb33 := NB271_261.out; have hnc33 := NB261_271.out; have hnb34 := NB271_262.out; have hnc34 := NB262_271.out; have hnb35 := NB271_263.out; have hnc35 := NB263_271.out; have hcz36_0 : w32.cell? ⟨gb271, 0, none⟩ = some (.int .i64 0) := (zc BK271.out 0).trans rfl; have hcz36_1 : w32.cell? ⟨gb271, 1, none⟩ = some (.int .i64 0) := (zc BK271.out 1).trans rfl; have hfz36_0 := zf BK271.out 0; have hfz36_1 := zf BK271.out 1) | ((with_reducible refine gate_callee (f := 76) rfl ?_); refine goesL_ (some 39) rfl rfl Try.func76 (by kernel_rfl) rfl #[.agg #[.int .i64 ((rd_T45 y267 x34_2).f0), .int .i64 ((rd_T45 y267 x34_2).f1)]] rfl zL ?_; (with_reducible refine (impl_ScaleOk.calls ((rd_T45 y267 x34_2).f0) ((rd_T45 y267 x34_2).f1) true _ A29.out).mono ?_); rintro e w37 ⟨rfl, hb⟩; refine ⟨_, rfl, ?_⟩; have n0_ := zK (Kd.R_below (by (with_reducible repeat (first | apply Kd.R_alloc | apply Kd.R_drewN | apply Kd.R_drew)); exact (Kd.R_mono (Kd.R_far (p := ⟨gb271, 1, none⟩) (Kd.R_far (p := ⟨gb271, 0, none⟩) (Kd.R_mono HO_32.out (fun k_ hk => (⟨hk, hk.2⟩ : _ ∧ k_ ≠ gb271))) (fun _ hk => hk.2) (.int .i64 ((rd_T45 y267 x34_2).f0))) (fun _ hk => hk.2) (.int .i64 ((rd_T45 y267 x34_2).f1))) (fun _ h_ => h_.1))) hb); have n1_ := zK (zg (g := gb261) (o := .cells #[.int .i64 a1_0, .int .i64 a1_1] 45 (0, 0)) (by (with_reducible repeat (first | refine zn ?_ _ | refine zd ?_ | refine za ?_ _)); refine blk_far ?_ NB261_271.out _; (with_reducible repeat (first | refine zn ?_ _ | refine zd ?_ | refine za ?_ _)); refine blk_far ?_ NB261_271.out _; (with_reducible repeat (first | refine zn ?_ _ | refine zd ?_ | refine za ?_ _)); exact BK261.out) hb); have n2_ := zK (zg (g := gb262) (o := .cells #[.int .i64 a2_0, .int .i64 a2_1] 45 (0, 0)) (by (with_reducible repeat (first | refine zn ?_ _ | refine zd ?_ | refine za ?_ _)); refine blk_far ?_ NB262_271.out _; (with_reducible repeat (first | refine zn ?_ _ | refine zd ?_ | refine za ?_ _)); refine blk_far ?_ NB262_271.out _; (with_reducible repeat (first | refine zn ?_ _ | refine zd ?_ | refine za ?_ _)); exact BK262.out) hb); have n3_ := zK (zg (g := gb263) (o := .cells #[.int .i64 a3_0, .int .i64 a3_1] 45 (0, 0)) (by (with_reducible repeat (first | refine zn ?_ _ | refine zd ?_ | refine za ?_ _)); refine blk_far ?_ NB263_271.out _; (with_reducible repeat (first | refine zn ?_ _ | refine zd ?_ | refine za ?_ _)); refine blk_far ?_ NB263_271.out _; (with_reducible repeat (first | refine zn ?_ _ | refine zd ?_ | refine za ?_ _)); exact BK263.out) hb); have n4_ := zK (zg (g := gb271) (o := .cells #[.int .i64 ((rd_T45 y267 x34_2).f0), .int .i64 ((rd_T45 y267 x34_2).f1)] 45 (0, 0)) (by (with_reducible repeat (first | refine zn ?_ _ | refine zd ?_ | refine za ?_ _)); refine blk_put (cs := #[.int .i64 ((rd_T45 y267 x34_2).f0), .int .i64 0]) ?_ 1 _ rfl; (with_reducible repeat (first | refine zn ?_ _ | refine zd ?_ | refine za ?_ _)); refine blk_put (cs := #[.int .i64 0, .int .i64 0]) ?_ 0 _ rfl; (with_reducible repeat (first | refine zn ?_ _ | refine zd ?_ | refine za ?_ _)); exact BK271.out) hb); have n5_ := zK (zp zB hb); clear HO_32; clear BK261; clear BK262; clear BK263; clear BK271; clear HB; have HO_32 := n0_; have BK261 := n1_; have BK262 := n2_; have BK263 := n3_; have BK271 := n4_; have HB := n5_; clear n0_ n1_ n2_ n3_ n4_ n5_; (try clear hb); (try clear hb2); (try clear hk); (try clear hi); have hcz38_0 : w37.cell? ⟨gb271, 0, none⟩ = some (.int .i64 ((rd_T45 y267 x34_2).f0)) := (zc BK271.out 0).trans rfl; have hcz38_1 : w37.cell? ⟨gb271, 1, none⟩ = some (.int .i64 ((rd_T45 y267 x34_2).f1)) := (zc BK271.out 1).trans rfl; have hfz38_0 := zf BK271.out 0; have hfz38_1 := zf BK271.out 1))
      go_ret
      exact ⟨by first | rfl | (simp [errW_none, errW_some] <;> rfl) | (simp [*, errW_none, errW_some] <;> rfl), zB⟩
    rw [if_neg c31] at H
    have c31b0 : decide (16777216 < ((rd_T45 y267 x34_2).f0)) = false := decide_eq_false c31
    clear c31
    have H' := zK H
    clear H
    have p270 : 0 ≤ (x34_2 : Int) := of_decide_eq_true zA
    have q270 : x34_2 < (y267.length : Int) := of_decide_eq_true zA
    obtain ⟨ad270, e270, hx270_0, hx270_1⟩ := at_T45 (Kd.R_reads' HO_32.out).2.2 x34_2 p270 q270
    cases e270
    replace p270 := eq_true p270
    replace q270 := eq_true q270
    go_wp2_with (first | ((with_reducible refine gate_dst (N := 14) rfl ?_); refine box_event ?hg (N := 14) ?hd (cs := #[.int .i64 0, .int .i64 0]) (t := 45) ?hr ?_; (case hd => rfl); (case hg => rfl); (case hr => first | (go_simp; done) | (go_simp; rfl)); intro gb271 hg w39 hbox hb; have n0_ := zK (Kd.R_below (Kd.R_elderB (by (with_reducible repeat (first | apply Kd.R_alloc | apply Kd.R_drewN | apply Kd.R_drew)); exact HO_32.out) gb271 (Nat.le_of_eq hg.symm)) hb); have n1_ := zK (zg (g := gb261) (o := .cells #[.int .i64 a1_0, .int .i64 a1_1] 45 (0, 0)) (by (with_reducible repeat (first | refine zn ?_ _ | refine zd ?_ | refine za ?_ _)); exact BK261.out) hb); have n2_ := zK (zg (g := gb262) (o := .cells #[.int .i64 a2_0, .int .i64 a2_1] 45 (0, 0)) (by (with_reducible repeat (first | refine zn ?_ _ | refine zd ?_ | refine za ?_ _)); exact BK262.out) hb); have n3_ := zK (zg (g := gb263) (o := .cells #[.int .i64 a3_0, .int .i64 a3_1] 45 (0, 0)) (by (with_reducible repeat (first | refine zn ?_ _ | refine zd ?_ | refine za ?_ _)); exact BK263.out) hb); have n4_ := zK (zp zB hb); have n5_ := zK (hbox); have n6_ := zK ((by rw [hg]; exact (zz zB) : w.heap.size ≤ gb271)); have n7_ := zK ((by rw [hg]; exact (zz zB) : w.heap.size ≤ gb271)); have n8_ := zK ((by rw [hg]; exact Nat.ne_of_lt (blk_lt (g := gb261) (o := .cells #[.int .i64 a1_0, .int .i64 a1_1] 45 (0, 0)) (by (with_reducible repeat (first | refine zn ?_ _ | refine zd ?_ | refine za ?_ _)); exact BK261.out)) : gb261 ≠ gb271)); have n9_ := zK ((by rw [hg]; exact Nat.ne_of_gt (blk_lt (g := gb261) (o := .cells #[.int .i64 a1_0, .int .i64 a1_1] 45 (0, 0)) (by (with_reducible repeat (first | refine zn ?_ _ | refine zd ?_ | refine za ?_ _)); exact BK261.out)) : gb271 ≠ gb261)); have n10_ := zK ((by rw [hg]; exact Nat.ne_of_lt (blk_lt (g := gb262) (o := .cells #[.int .i64 a2_0, .int .i64 a2_1] 45 (0, 0)) (by (with_reducible repeat (first | refine zn ?_ _ | refine zd ?_ | refine za ?_ _)); exact BK262.out)) : gb262 ≠ gb271)); have n11_ := zK ((by rw [hg]; exact Nat.ne_of_gt (blk_lt (g := gb262) (o := .cells #[.int .i64 a2_0, .int .i64 a2_1] 45 (0, 0)) (by (with_reducible repeat (first | refine zn ?_ _ | refine zd ?_ | refine za ?_ _)); exact BK262.out)) : gb271 ≠ gb262)); have n12_ := zK ((by rw [hg]; exact Nat.ne_of_lt (blk_lt (g := gb263) (o := .cells #[.int .i64 a3_0, .int .i64 a3_1] 45 (0, 0)) (by (with_reducible repeat (first | refine zn ?_ _ | refine zd ?_ | refine za ?_ _)); exact BK263.out)) : gb263 ≠ gb271)); have n13_ := zK ((by rw [hg]; exact Nat.ne_of_gt (blk_lt (g := gb263) (o := .cells #[.int .i64 a3_0, .int .i64 a3_1] 45 (0, 0)) (by (with_reducible repeat (first | refine zn ?_ _ | refine zd ?_ | refine za ?_ _)); exact BK263.out)) : gb271 ≠ gb263)); clear HO_32; clear BK261; clear BK262; clear BK263; clear HB; have HO_32 := n0_; have BK261 := n1_; have BK262 := n2_; have BK263 := n3_; have HB := n4_; have BK271 := n5_; have GW271 := n6_; have GE271 := n7_; have NB261_271 := n8_; have NB271_261 := n9_; have NB262_271 := n10_; have NB271_262 := n11_; have NB263_271 := n12_; have NB271_263 := n13_; clear n0_ n1_ n2_ n3_ n4_ n5_ n6_ n7_ n8_ n9_ n10_ n11_ n12_ n13_; clear hb hbox hg; have hnb40 := NB271_261.out; have hnc40 := NB261_271.out; have hnb41 := NB271_262.out; have hnc41 := NB262_271.out; have hnb42 := NB271_263.out; have hnc42 := NB263_271.out; have hcz43_0 : w39.cell? ⟨gb271, 0, none⟩ = some (.int .i64 0) := (zc BK271.out 0).trans rfl; have hcz43_1 : w39.cell? ⟨gb271, 1, none⟩ = some (.int .i64 0) := (zc BK271.out 1).trans rfl; have hfz43_0 := zf BK271.out 0; have hfz43_1 := zf BK271.out 1) | ((with_reducible refine gate_callee (f := 76) rfl ?_); refine goesL_ (some 39) rfl rfl Try.func76 (by kernel_rfl) rfl #[.agg #[.int .i64 ((rd_T45 y267 x34_2).f0), .int .i64 ((rd_T45 y267 x34_2).f1)]] rfl zL ?_; (with_reducible refine (impl_ScaleOk.calls ((rd_T45 y267 x34_2).f0) ((rd_T45 y267 x34_2).f1) true _ A29.out).mono ?_); rintro e w44 ⟨rfl, hb⟩; refine ⟨_, rfl, ?_⟩; have n0_ := zK (Kd.R_below (by (with_reducible repeat (first | apply Kd.R_alloc | apply Kd.R_drewN | apply Kd.R_drew)); exact (Kd.R_mono (Kd.R_far (p := ⟨gb271, 1, none⟩) (Kd.R_far (p := ⟨gb271, 0, none⟩) (Kd.R_mono HO_32.out (fun k_ hk => (⟨hk, hk.2⟩ : _ ∧ k_ ≠ gb271))) (fun _ hk => hk.2) (.int .i64 ((rd_T45 y267 x34_2).f0))) (fun _ hk => hk.2) (.int .i64 ((rd_T45 y267 x34_2).f1))) (fun _ h_ => h_.1))) hb); have n1_ := zK (zg (g := gb261) (o := .cells #[.int .i64 a1_0, .int .i64 a1_1] 45 (0, 0)) (by (with_reducible repeat (first | refine zn ?_ _ | refine zd ?_ | refine za ?_ _)); refine blk_far ?_ NB261_271.out _; (with_reducible repeat (first | refine zn ?_ _ | refine zd ?_ | refine za ?_ _)); refine blk_far ?_ NB261_271.out _; (with_reducible repeat (first | refine zn ?_ _ | refine zd ?_ | refine za ?_ _)); exact BK261.out) hb); have n2_ := zK (zg (g := gb262) (o := .cells #[.int .i64 a2_0, .int .i64 a2_1] 45 (0, 0)) (by (with_reducible repeat (first | refine zn ?_ _ | refine zd ?_ | refine za ?_ _)); refine blk_far ?_ NB262_271.out _; (with_reducible repeat (first | refine zn ?_ _ | refine zd ?_ | refine za ?_ _)); refine blk_far ?_ NB262_271.out _; (with_reducible repeat (first | refine zn ?_ _ | refine zd ?_ | refine za ?_ _)); exact BK262.out) hb); have n3_ := zK (zg (g := gb263) (o := .cells #[.int .i64 a3_0, .int .i64 a3_1] 45 (0, 0)) (by (with_reducible repeat (first | refine zn ?_ _ | refine zd ?_ | refine za ?_ _)); refine blk_far ?_ NB263_271.out _; (with_reducible repeat (first | refine zn ?_ _ | refine zd ?_ | refine za ?_ _)); refine blk_far ?_ NB263_271.out _; (with_reducible repeat (first | refine zn ?_ _ | refine zd ?_ | refine za ?_ _)); exact BK263.out) hb); have n4_ := zK (zg (g := gb271) (o := .cells #[.int .i64 ((rd_T45 y267 x34_2).f0), .int .i64 ((rd_T45 y267 x34_2).f1)] 45 (0, 0)) (by (with_reducible repeat (first | refine zn ?_ _ | refine zd ?_ | refine za ?_ _)); refine blk_put (cs := #[.int .i64 ((rd_T45 y267 x34_2).f0), .int .i64 0]) ?_ 1 _ rfl; (with_reducible repeat (first | refine zn ?_ _ | refine zd ?_ | refine za ?_ _)); refine blk_put (cs := #[.int .i64 0, .int .i64 0]) ?_ 0 _ rfl; (with_reducible repeat (first | refine zn ?_ _ | refine zd ?_ | refine za ?_ _)); exact BK271.out) hb); have n5_ := zK (zp zB hb); clear HO_32; clear BK261; clear BK262; clear BK263; clear BK271; clear HB; have HO_32 := n0_; have BK261 := n1_; have BK262 := n2_; have BK263 := n3_; have BK271 := n4_; have HB := n5_; clear n0_ n1_ n2_ n3_ n4_ n5_; (try clear hb); (try clear hb2); (try clear hk); (try clear hi); have hcz45_0 : w44.cell? ⟨gb271, 0, none⟩ = some (.int .i64 ((rd_T45 y267 x34_2).f0)) := (zc BK271.out 0).trans rfl; have hcz45_1 : w44.cell? ⟨gb271, 1, none⟩ = some (.int .i64 ((rd_T45 y267 x34_2).f1)) := (zc BK271.out 1).trans rfl; have hfz45_0 := zf BK271.out 0; have hfz45_1 := zf BK271.out 1))
    go_roundg k2
    case measure => have := HJ6.out; have := HK2.out; omega
    case rel => exact ⟨(wrap64 (x34_2 + 1)), zR, H', ⟨by have := HJ6.out; have := HK2.out; omega⟩, ⟨by (with_reducible repeat (first | apply Kd.R_alloc | apply Kd.R_drewN | apply Kd.R_drew)); exact Kd.R_mono HO_32.out (fun _ hk => ⟨hk.1.1, ⟨hk.1.2.1, hk.1.2.2⟩⟩)⟩, ⟨by (with_reducible repeat (first | refine zn ?_ _ | refine zd ?_ | refine za ?_ _)); exact BK261.out⟩, ⟨by (with_reducible repeat (first | refine zn ?_ _ | refine zd ?_ | refine za ?_ _)); exact BK262.out⟩, ⟨by (with_reducible repeat (first | refine zn ?_ _ | refine zd ?_ | refine za ?_ _)); exact BK263.out⟩, ⟨zB⟩⟩

end Go.Proofs.Ytemcipcijhkhjaa.PFnMatBound
