-- Printed out of the translation by this session's own turned copy of a printer; Lean checks it.
import Derived.Test.YtemcipcijhkhjaaPFnMatBoundx0
import Derived.Test.YtemcipcijhkhjaaPFnMatBoundx1
namespace Go.Proofs.Ytemcipcijhkhjaa.PFnMatBound
open Go.RowKit Go.Proofs.YtemcipcijhkhjaaW.PrintWords Go.Proofs.YtemcipcijhkhjaaW.PrintLast Go.Proofs.YtemcipcijhkhjaaW.PrintMore
attribute [local go_sem] max2_int min2_int max_two min_two max_three min_three max_four min_four   -- for this text's walks alone
set_option linter.unusedVariables false
set_option linter.unusedSimpArgs false

/-! ### impl_Shift: function 119 -/
def impl_Shift.f (a0 : Int) (a1 : Int) : Option (Int) := if a1 < 0 then (some 0) else (if a1 > 62 then (some 0) else (if 0 ≤ a1 then ((impl_near.f (shr .i64 a0 a1) (wrap64 (a0 - (shl .i64 (shr .i64 a0 a1) a1))) (shl .i64 1 a1)).bind fun t157 => (some t157)) else (none)))
set_option maxHeartbeats 8000000 in
set_option maxRecDepth 100000 in
theorem impl_Shift.calls (a0 : Int) (a1 : Int) (r : Int) (w : World) (h : impl_Shift.f a0 a1 = some r) :
    Calls Try.prog 119 #[.int .i64 a0, .int .i64 a1] w fun e w' => e = .returned (.int .i64 r) ∧ Drawn0 w w' := by
  have H : (if a1 < 0 then (some 0) else (if a1 > 62 then (some 0) else (if 0 ≤ a1 then ((impl_near.f (shr .i64 a0 a1) (wrap64 (a0 - (shl .i64 (shr .i64 a0 a1) a1))) (shl .i64 1 a1)).bind fun t157 => (some t157)) else (none)))) = some r := h
  clear h
  by_cases c3 : a1 < 0
  · rw [if_pos c3] at H
    have c3b0 : decide (a1 < 0) = true := decide_eq_true c3
    clear c3
    obtain rfl := Option.some.inj H
    go_enter Try.func119, Try.ntmps119
    go_wp2
    repeat (go_quiet (fail); try go_wp2)
    go_ret
    exact ⟨zR, zD⟩
  rw [if_neg c3] at H
  have c3b0 : decide (a1 < 0) = false := decide_eq_false c3
  clear c3
  by_cases c4 : a1 > 62
  · rw [if_pos c4] at H
    have c4b0 : decide (62 < a1) = true := decide_eq_true c4
    clear c4
    obtain rfl := Option.some.inj H
    go_enter Try.func119, Try.ntmps119
    go_wp2
    repeat (go_quiet (fail); try go_wp2)
    go_ret
    exact ⟨zR, zD⟩
  rw [if_neg c4] at H
  have c4b0 : decide (62 < a1) = false := decide_eq_false c4
  clear c4
  by_cases c5 : 0 ≤ a1
  rotate_left
  · rw [if_neg c5] at H
    exact absurd H (by simp)
  rw [if_pos c5] at H
  have c5b0 := eq_true c5
  have c5b1 : decide (0 ≤ a1) = true := decide_eq_true c5
  clear c5
  obtain ⟨ji6, hji6⟩ : ∃ j_ : Int, (shr .i64 a0 a1) = j_ := ⟨_, rfl⟩
  replace H : ((impl_near.f (ji6) (wrap64 (a0 - (shl .i64 (ji6) a1))) (shl .i64 1 a1)).bind fun t157 => (some t157)) = some r := by first | (rw [hji6] at H; exact H) | (simp only [hji6] at H ⊢; exact H)
  have hji6_ : (a0 / 2 ^ min a1.toNat 64) = ji6 := hji6
  have hji6z : a1 ≤ 64 → (a0 / 2 ^ a1.toNat) = ji6 := shr_small hji6
  have c7b0 := eq_true (of_decide_eq_true zA : 0 ≤ a1)
  obtain ⟨ji8, hji8⟩ : ∃ j_ : Int, (shl .i64 (ji6) a1) = j_ := ⟨_, rfl⟩
  replace H : ((impl_near.f (ji6) (wrap64 (a0 - (ji8))) (shl .i64 1 a1)).bind fun t157 => (some t157)) = some r := by first | (rw [hji8] at H; exact H) | (simp only [hji8] at H ⊢; exact H)
  have hji8_ : (IntKind.i64.wrap ((ji6) * 2 ^ min a1.toNat 64)) = ji8 := hji8
  have hji8z : a1 ≤ 64 → (IntKind.i64.wrap ((ji6) * 2 ^ a1.toNat)) = ji8 := shl_small hji8
  have hji8y : (wrap64 ((ji6) * 2 ^ min a1.toNat 64)) = ji8 := (i64_w _).symm.trans hji8_
  have hji8x : a1 ≤ 64 → (wrap64 ((ji6) * 2 ^ a1.toNat)) = ji8 := fun h_ => (i64_w _).symm.trans (hji8z h_)
  have c9b0 := eq_true (of_decide_eq_true zA : 0 ≤ a1)
  obtain ⟨ji10, hji10⟩ : ∃ j_ : Int, (shl .i64 1 a1) = j_ := ⟨_, rfl⟩
  replace H : ((impl_near.f (ji6) (wrap64 (a0 - (ji8))) (ji10)).bind fun t157 => (some t157)) = some r := by first | (rw [hji10] at H; exact H) | (simp only [hji10] at H ⊢; exact H)
  have hji10_ : (IntKind.i64.wrap (1 * 2 ^ min a1.toNat 64)) = ji10 := hji10
  have hji10z : a1 ≤ 64 → (IntKind.i64.wrap (1 * 2 ^ a1.toNat)) = ji10 := shl_small hji10
  have hji10u : (IntKind.i64.wrap (2 ^ min a1.toNat 64)) = ji10 := by have h_ := hji10_; rw [Int.one_mul] at h_; exact h_
  have hji10v : a1 ≤ 64 → (IntKind.i64.wrap (2 ^ a1.toNat)) = ji10 := fun hle_ => by have h_ := hji10z hle_; rw [Int.one_mul] at h_; exact h_
  have hji10y : (wrap64 (1 * 2 ^ min a1.toNat 64)) = ji10 := (i64_w _).symm.trans hji10_
  have hji10x : a1 ≤ 64 → (wrap64 (1 * 2 ^ a1.toNat)) = ji10 := fun h_ => (i64_w _).symm.trans (hji10z h_)
  replace H := Option.bind_eq_some_iff.mp H
  obtain ⟨t157, A110, H⟩ := H
  replace H : (some t157) = some r := H
  have A11 := zK A110
  clear A110
  obtain rfl := Option.some.inj H
  go_enter Try.func119, Try.ntmps119
  go_wp2_with (first | (go_at_call 116; (with_reducible refine (impl_near.calls ji6 (wrap64 (a0 - (ji8))) ji10 t157 _ A11.out).mono ?_); rintro e w' ⟨rfl, ⟨nd, rfl⟩⟩; (try first | exact ⟨rfl, _, World.drewN_drewN _ _ _⟩ | exact ⟨rfl, _, Eq.trans (World.drewN_drewN _ _ _) (congrArg (World.drewN _) (Nat.add_assoc _ _ _))⟩)))
  repeat (go_quiet (first | (go_at_call 116; (with_reducible refine (impl_near.calls ji6 (wrap64 (a0 - (ji8))) ji10 t157 _ A11.out).mono ?_); rintro e w' ⟨rfl, ⟨nd, rfl⟩⟩; (try first | exact ⟨rfl, _, World.drewN_drewN _ _ _⟩ | exact ⟨rfl, _, Eq.trans (World.drewN_drewN _ _ _) (congrArg (World.drewN _) (Nat.add_assoc _ _ _))⟩))); try go_wp2_with (first | (go_at_call 116; (with_reducible refine (impl_near.calls ji6 (wrap64 (a0 - (ji8))) ji10 t157 _ A11.out).mono ?_); rintro e w' ⟨rfl, ⟨nd, rfl⟩⟩; (try first | exact ⟨rfl, _, World.drewN_drewN _ _ _⟩ | exact ⟨rfl, _, Eq.trans (World.drewN_drewN _ _ _) (congrArg (World.drewN _) (Nat.add_assoc _ _ _))⟩))))
  go_ret
  exact ⟨by first | rfl | (simp; done) | (simp only [← hji6, ← hji8, ← hji10] <;> (first | rfl | simp)) | (simp [*]; done), zD⟩

/-! ### impl_Requant: function 68 -/
def impl_Requant.j0 : Nat → Int → Int → Int → Bool → Int → Int → Option (Int)
  | 0, _, _, _, _, _, _ => none
  | k + 1, x0, x1, x2, x26, x159000, x159001 => if x26 = true then (some 0) else ((impl_Shift.f (wrap64 (x0 * x1)) x2).bind fun t163 => ((impl_bring_int.f (wrap64 (x159001 + t163)) 0 255).bind fun t164 => (some t164)))
def impl_Requant.f (k : Nat) (a0 : Int) (a1 : Int) (a2 : Int) (a3_0 : Int) (a3_1 : Int) : Option (Int) := (impl_ScaleOk.f a3_0 a3_1).bind fun t159 => (if t159 = true then ((impl_within.f a0 (-1073741824) 1073741824).bind fun t160 => (if t160 = true then ((impl_within.f a1 0 2147483648).bind fun t161 => (if t161 = true then ((impl_within.f a2 0 62).bind fun t162 => (impl_Requant.j0 k a0 a1 a2 (!t162) a3_0 a3_1)) else (impl_Requant.j0 k a0 a1 a2 true a3_0 a3_1))) else (impl_Requant.j0 k a0 a1 a2 true a3_0 a3_1))) else (impl_Requant.j0 k a0 a1 a2 true a3_0 a3_1))
theorem impl_Requant.mono_l : ∀ k, (∀ y0 y1 y2 y3 y4 y5, LeO (impl_Requant.j0 k y0 y1 y2 y3 y4 y5) (impl_Requant.j0 (k + 1) y0 y1 y2 y3 y4 y5))
  | 0 => fun _ _ _ _ _ _ r h => by simp [impl_Requant.j0] at h
  | k + 1 => by
    have ih0 := impl_Requant.mono_l k
    · intro y0 y1 y2 y3 y4 y5
      unfold impl_Requant.j0
      repeat' first
      | (with_reducible exact ih0 _ _ _ _ _ _)
      | (with_reducible exact LeO.refl _)
      | (with_reducible exact LeO.none _)
      | (with_reducible refine LeO.ite ?_ ?_)
      | (with_reducible refine LeO.bind ?_ (fun _ => ?_))
      | exact ih0 _ _ _ _ _ _
      | exact LeO.none _
      | refine LeO.ite ?_ ?_
      | refine LeO.bind ?_ (fun _ => ?_)
theorem impl_Requant.mono : ∀ a0 a1 a2 a3 a4 k, LeO (impl_Requant.f k a0 a1 a2 a3 a4) (impl_Requant.f (k + 1) a0 a1 a2 a3 a4) := by
  intro a0 a1 a2 a3 a4 k
  have ih0 := impl_Requant.mono_l k
  unfold impl_Requant.f
  repeat' first
      | (with_reducible exact ih0 _ _ _ _ _ _)
      | (with_reducible exact LeO.refl _)
      | (with_reducible exact LeO.none _)
      | (with_reducible refine LeO.ite ?_ ?_)
      | (with_reducible refine LeO.bind ?_ (fun _ => ?_))
      | exact ih0 _ _ _ _ _ _
      | exact LeO.none _
      | refine LeO.ite ?_ ?_
      | refine LeO.bind ?_ (fun _ => ?_)
def impl_Requant.T3 : Bool × List (List Nat × List Nat) := (true, [([], []), ([0], [0]), ([], []), ([], []), ([2, 3], [2, 3]), ([], []), ([4, 5], [4, 5]), ([1, 6], [1, 6]), ([7, 6], [7]), ([8, 8, 0, 1, 2, 3, 4, 5, 6, 7, 8], [8])])
def impl_Requant.B3 : List Nat := [0, 1, 0, 0, 12, 0, 60, 127, 255, 511]
theorem impl_Requant.tab3 : rtab .any (opsOf Try.f68 3) = impl_Requant.T3 := by kernel_rfl
theorem impl_Requant.bits3 : waitsOk impl_Requant.T3.2 impl_Requant.B3 = true := by kernel_rfl
set_option maxHeartbeats 8000000 in
set_option maxRecDepth 100000 in
theorem impl_Requant.calls (k : Nat) (a0 : Int) (a1 : Int) (a2 : Int) (a3_0 : Int) (a3_1 : Int) (r : Int) (w : World) (h : impl_Requant.f k a0 a1 a2 a3_0 a3_1 = some r) :
    Calls Try.prog 68 #[.int .i64 a0, .int .i64 a1, .int .i64 a2, .agg #[.int .i64 a3_0, .int .i64 a3_1]] w fun e w' => e = .returned (.int .i64 r) ∧ Below w.heap.size w w' := by
  have hu45 := Try.underlying45
  have HB := zK (Below.refl w.heap.size w)
  have H : ((impl_ScaleOk.f a3_0 a3_1).bind fun t159 => (if t159 = true then ((impl_within.f a0 (-1073741824) 1073741824).bind fun t160 => (if t160 = true then ((impl_within.f a1 0 2147483648).bind fun t161 => (if t161 = true then ((impl_within.f a2 0 62).bind fun t162 => (impl_Requant.j0 k a0 a1 a2 (!t162) a3_0 a3_1)) else (impl_Requant.j0 k a0 a1 a2 true a3_0 a3_1))) else (impl_Requant.j0 k a0 a1 a2 true a3_0 a3_1))) else (impl_Requant.j0 k a0 a1 a2 true a3_0 a3_1))) = some r := h
  clear h
  have HC5 := zK H
  clear H
  go_enter Try.func68, Try.ntmps68
  go_upto_region 1 with (first | ((with_reducible refine gate_dst (N := 7) rfl ?_); refine box_event ?hg (N := 7) ?hd (cs := #[.int .i64 a3_0, .int .i64 a3_1]) (t := 45) ?hr ?_; (case hd => rfl); (case hg => rfl); (case hr => first | (go_simp; done) | (go_simp; rfl)); intro gb158 hg w6 hbox hb; have n0_ := zK (zp zB hb); have n1_ := zK (hbox); have n2_ := zK ((by rw [hg]; exact (zz zB) : w.heap.size ≤ gb158)); have n3_ := zK ((by rw [hg]; exact (zz zB) : w.heap.size ≤ gb158)); clear HB; have HB := n0_; have BK158 := n1_; have GW158 := n2_; have GE158 := n3_; clear n0_ n1_ n2_ n3_; clear hb hbox hg))
  (try simp only [Act.put, List.setIfInBounds_toArray, List.set_cons_zero, List.set_cons_succ])
  go_cut [26] (fun v26 wc => ∃ (kq : Nat) (x26_4 : Bool), v26 = .bool x26_4 ∧ Aside0 (impl_Requant.j0 kq a0 a1 a2 x26_4 a3_0 a3_1 = some r) ∧ Aside0 (kq ≤ k) ∧ Aside0 (wc.heap[gb158]? = some (.cells #[.int .i64 a3_0, .int .i64 a3_1] 45 (0, 0))) ∧ Aside0 (Below w.heap.size w wc))
  case first =>
   have H := HC5.out
   clear HC5
   replace H := Option.bind_eq_some_iff.mp H
   obtain ⟨t159, A70, H⟩ := H
   replace H : (if t159 = true then ((impl_within.f a0 (-1073741824) 1073741824).bind fun t160 => (if t160 = true then ((impl_within.f a1 0 2147483648).bind fun t161 => (if t161 = true then ((impl_within.f a2 0 62).bind fun t162 => (impl_Requant.j0 k a0 a1 a2 (!t162) a3_0 a3_1)) else (impl_Requant.j0 k a0 a1 a2 true a3_0 a3_1))) else (impl_Requant.j0 k a0 a1 a2 true a3_0 a3_1))) else (impl_Requant.j0 k a0 a1 a2 true a3_0 a3_1)) = some r := H
   have A7 := zK A70
   clear A70
   by_cases c8 : t159 = true
   rotate_left
   · replace c8 := Bool.eq_false_iff.mpr c8
     subst c8
     have H1 : (impl_Requant.j0 k a0 a1 a2 true a3_0 a3_1) = some r := by rw [if_neg (show ¬ (false = true) by decide)] at H; exact H
     clear H
     have H := H1
     clear H1
     have H' := zK H
     clear H
     have hcz20_0 : w6.cell? ⟨gb158, 0, none⟩ = some (.int .i64 a3_0) := (zc BK158.out 0).trans rfl
     have hcz20_1 : w6.cell? ⟨gb158, 1, none⟩ = some (.int .i64 a3_1) := (zc BK158.out 1).trans rfl
     have hfz20_0 := zf BK158.out 0
     have hfz20_1 := zf BK158.out 1
     go_wp2_with (first | ((with_reducible refine gate_callee (f := 76) rfl ?_); refine goesL_ (some 10) rfl rfl Try.func76 (by kernel_rfl) rfl #[.agg #[.int .i64 a3_0, .int .i64 a3_1]] rfl zL ?_; (with_reducible refine (impl_ScaleOk.calls a3_0 a3_1 false _ A7.out).mono ?_); rintro e w21 ⟨rfl, hb⟩; refine ⟨_, rfl, ?_⟩; have n0_ := zK (zg (g := gb158) (o := .cells #[.int .i64 a3_0, .int .i64 a3_1] 45 (0, 0)) (by (with_reducible repeat (first | refine zn ?_ _ | refine zd ?_ | refine za ?_ _)); exact BK158.out) hb); have n1_ := zK (zp zB hb); clear BK158; clear HB; have BK158 := n0_; have HB := n1_; clear n0_ n1_; (try clear hb); (try clear hb2); (try clear hk); (try clear hi)))
     go_meet
     case rel => exact ⟨_, (true), zR, H', ⟨by first | omega | exact Nat.le_refl _⟩, ⟨by (with_reducible repeat (first | refine zn ?_ _ | refine zd ?_ | refine za ?_ _)); exact BK158.out⟩, ⟨zB⟩⟩
   subst c8
   have H1 : ((impl_within.f a0 (-1073741824) 1073741824).bind fun t160 => (if t160 = true then ((impl_within.f a1 0 2147483648).bind fun t161 => (if t161 = true then ((impl_within.f a2 0 62).bind fun t162 => (impl_Requant.j0 k a0 a1 a2 (!t162) a3_0 a3_1)) else (impl_Requant.j0 k a0 a1 a2 true a3_0 a3_1))) else (impl_Requant.j0 k a0 a1 a2 true a3_0 a3_1))) = some r := by rw [if_pos rfl] at H; exact H
   clear H
   have H := H1
   clear H1
   replace H := Option.bind_eq_some_iff.mp H
   obtain ⟨t160, A90, H⟩ := H
   replace H : (if t160 = true then ((impl_within.f a1 0 2147483648).bind fun t161 => (if t161 = true then ((impl_within.f a2 0 62).bind fun t162 => (impl_Requant.j0 k a0 a1 a2 (!t162) a3_0 a3_1)) else (impl_Requant.j0 k a0 a1 a2 true a3_0 a3_1))) else (impl_Requant.j0 k a0 a1 a2 true a3_0 a3_1)) = some r := H
   have A9 := zK A90
   clear A90
   by_cases c10 : t160 = true
   rotate_left
   · replace c10 := Bool.eq_false_iff.mpr c10
     subst c10
     have H1 : (impl_Requant.j0 k a0 a1 a2 true a3_0 a3_1) = some r := by rw [if_neg (show ¬ (false = true) by decide)] at H; exact H
     clear H
     have H := H1
     clear H1
     have H' := zK H
     clear H
     have hcz18_0 : w6.cell? ⟨gb158, 0, none⟩ = some (.int .i64 a3_0) := (zc BK158.out 0).trans rfl
     have hcz18_1 : w6.cell? ⟨gb158, 1, none⟩ = some (.int .i64 a3_1) := (zc BK158.out 1).trans rfl
     have hfz18_0 := zf BK158.out 0
     have hfz18_1 := zf BK158.out 1
     go_wp2_with (first | ((with_reducible refine gate_callee (f := 76) rfl ?_); refine goesL_ (some 10) rfl rfl Try.func76 (by kernel_rfl) rfl #[.agg #[.int .i64 a3_0, .int .i64 a3_1]] rfl zL ?_; (with_reducible refine (impl_ScaleOk.calls a3_0 a3_1 true _ A7.out).mono ?_); rintro e w19 ⟨rfl, hb⟩; refine ⟨_, rfl, ?_⟩; have n0_ := zK (zg (g := gb158) (o := .cells #[.int .i64 a3_0, .int .i64 a3_1] 45 (0, 0)) (by (with_reducible repeat (first | refine zn ?_ _ | refine zd ?_ | refine za ?_ _)); exact BK158.out) hb); have n1_ := zK (zp zB hb); clear BK158; clear HB; have BK158 := n0_; have HB := n1_; clear n0_ n1_; (try clear hb); (try clear hb2); (try clear hk); (try clear hi)) | (go_at_call 65; (with_reducible refine (impl_within.calls a0 (-1073741824) 1073741824 false _ A9.out).mono ?_); rintro e w' ⟨rfl, ⟨nd, rfl⟩⟩))
     go_meet
     case rel => exact ⟨_, (true), zR, H', ⟨by first | omega | exact Nat.le_refl _⟩, ⟨by (with_reducible repeat (first | refine zn ?_ _ | refine zd ?_ | refine za ?_ _)); exact BK158.out⟩, ⟨zB⟩⟩
   subst c10
   have H1 : ((impl_within.f a1 0 2147483648).bind fun t161 => (if t161 = true then ((impl_within.f a2 0 62).bind fun t162 => (impl_Requant.j0 k a0 a1 a2 (!t162) a3_0 a3_1)) else (impl_Requant.j0 k a0 a1 a2 true a3_0 a3_1))) = some r := by rw [if_pos rfl] at H; exact H
   clear H
   have H := H1
   clear H1
   replace H := Option.bind_eq_some_iff.mp H
   obtain ⟨t161, A110, H⟩ := H
   replace H : (if t161 = true then ((impl_within.f a2 0 62).bind fun t162 => (impl_Requant.j0 k a0 a1 a2 (!t162) a3_0 a3_1)) else (impl_Requant.j0 k a0 a1 a2 true a3_0 a3_1)) = some r := H
   have A11 := zK A110
   clear A110
   by_cases c12 : t161 = true
   rotate_left
   · replace c12 := Bool.eq_false_iff.mpr c12
     subst c12
     have H1 : (impl_Requant.j0 k a0 a1 a2 true a3_0 a3_1) = some r := by rw [if_neg (show ¬ (false = true) by decide)] at H; exact H
     clear H
     have H := H1
     clear H1
     have H' := zK H
     clear H
     have hcz16_0 : w6.cell? ⟨gb158, 0, none⟩ = some (.int .i64 a3_0) := (zc BK158.out 0).trans rfl
     have hcz16_1 : w6.cell? ⟨gb158, 1, none⟩ = some (.int .i64 a3_1) := (zc BK158.out 1).trans rfl
     have hfz16_0 := zf BK158.out 0
     have hfz16_1 := zf BK158.out 1
     go_wp2_with (first | ((with_reducible refine gate_callee (f := 76) rfl ?_); refine goesL_ (some 10) rfl rfl Try.func76 (by kernel_rfl) rfl #[.agg #[.int .i64 a3_0, .int .i64 a3_1]] rfl zL ?_; (with_reducible refine (impl_ScaleOk.calls a3_0 a3_1 true _ A7.out).mono ?_); rintro e w17 ⟨rfl, hb⟩; refine ⟨_, rfl, ?_⟩; have n0_ := zK (zg (g := gb158) (o := .cells #[.int .i64 a3_0, .int .i64 a3_1] 45 (0, 0)) (by (with_reducible repeat (first | refine zn ?_ _ | refine zd ?_ | refine za ?_ _)); exact BK158.out) hb); have n1_ := zK (zp zB hb); clear BK158; clear HB; have BK158 := n0_; have HB := n1_; clear n0_ n1_; (try clear hb); (try clear hb2); (try clear hk); (try clear hi)) | (go_at_call 65; (with_reducible refine (impl_within.calls a0 (-1073741824) 1073741824 true _ A9.out).mono ?_); rintro e w' ⟨rfl, ⟨nd, rfl⟩⟩) | (go_at_call 65; (with_reducible refine (impl_within.calls a1 0 2147483648 false _ A11.out).mono ?_); rintro e w' ⟨rfl, ⟨nd, rfl⟩⟩))
     go_meet
     case rel => exact ⟨_, (true), zR, H', ⟨by first | omega | exact Nat.le_refl _⟩, ⟨by (with_reducible repeat (first | refine zn ?_ _ | refine zd ?_ | refine za ?_ _)); exact BK158.out⟩, ⟨zB⟩⟩
   subst c12
   have H1 : ((impl_within.f a2 0 62).bind fun t162 => (impl_Requant.j0 k a0 a1 a2 (!t162) a3_0 a3_1)) = some r := by rw [if_pos rfl] at H; exact H
   clear H
   have H := H1
   clear H1
   replace H := Option.bind_eq_some_iff.mp H
   obtain ⟨t162, A130, H⟩ := H
   replace H : (impl_Requant.j0 k a0 a1 a2 (!t162) a3_0 a3_1) = some r := H
   have A13 := zK A130
   clear A130
   have H' := zK H
   clear H
   have hcz14_0 : w6.cell? ⟨gb158, 0, none⟩ = some (.int .i64 a3_0) := (zc BK158.out 0).trans rfl
   have hcz14_1 : w6.cell? ⟨gb158, 1, none⟩ = some (.int .i64 a3_1) := (zc BK158.out 1).trans rfl
   have hfz14_0 := zf BK158.out 0
   have hfz14_1 := zf BK158.out 1
   go_wp2_with (first | ((with_reducible refine gate_callee (f := 76) rfl ?_); refine goesL_ (some 10) rfl rfl Try.func76 (by kernel_rfl) rfl #[.agg #[.int .i64 a3_0, .int .i64 a3_1]] rfl zL ?_; (with_reducible refine (impl_ScaleOk.calls a3_0 a3_1 true _ A7.out).mono ?_); rintro e w15 ⟨rfl, hb⟩; refine ⟨_, rfl, ?_⟩; have n0_ := zK (zg (g := gb158) (o := .cells #[.int .i64 a3_0, .int .i64 a3_1] 45 (0, 0)) (by (with_reducible repeat (first | refine zn ?_ _ | refine zd ?_ | refine za ?_ _)); exact BK158.out) hb); have n1_ := zK (zp zB hb); clear BK158; clear HB; have BK158 := n0_; have HB := n1_; clear n0_ n1_; (try clear hb); (try clear hb2); (try clear hk); (try clear hi)) | (go_at_call 65; (with_reducible refine (impl_within.calls a0 (-1073741824) 1073741824 true _ A9.out).mono ?_); rintro e w' ⟨rfl, ⟨nd, rfl⟩⟩) | (go_at_call 65; (with_reducible refine (impl_within.calls a1 0 2147483648 true _ A11.out).mono ?_); rintro e w' ⟨rfl, ⟨nd, rfl⟩⟩) | (go_at_call 65; (with_reducible refine (impl_within.calls a2 0 62 t162 _ A13.out).mono ?_); rintro e w' ⟨rfl, ⟨nd, rfl⟩⟩))
   go_meet
   case rel => exact ⟨_, (!t162), zR, H', ⟨by first | omega | exact Nat.le_refl _⟩, ⟨by (with_reducible repeat (first | refine zn ?_ _ | refine zd ?_ | refine za ?_ _)); exact BK158.out⟩, ⟨zB⟩⟩
  case rest =>
   clear HC5
   try clear c1
   try clear p2
   try clear c6
   try clear c7
   try clear c8
   try clear c10
   try clear c12
   try clear hcz14_0
   try clear hcz14_1
   try clear hcz16_0
   try clear hcz16_1
   try clear hcz18_0
   try clear hcz18_1
   try clear hcz20_0
   try clear hcz20_1
   try clear hfz14_0
   try clear hfz14_1
   try clear hfz16_0
   try clear hfz16_1
   try clear hfz18_0
   try clear hfz18_1
   try clear hfz20_0
   try clear hfz20_1
   obtain ⟨kq, x26_4, rfl, HA, HJ4, BK158, HB⟩ := hcut
   cases kq with
   | zero => exact absurd HA.out (by simp [impl_Requant.j0])
   | succ kj4 =>
    have H := HA.out
    clear HA
    simp only [impl_Requant.j0] at H
    by_cases c22 : x26_4 = true
    · subst c22
      have H1 : (some 0) = some r := by rw [if_pos rfl] at H; exact H
      clear H
      have H := H1
      clear H1
      obtain rfl := Option.some.inj H
      go_wp2
      go_ret
      exact ⟨by first | rfl | (simp [errW_none, errW_some] <;> rfl) | (simp [*, errW_none, errW_some] <;> rfl), zB⟩
    replace c22 := Bool.eq_false_iff.mpr c22
    subst c22
    have H1 : ((impl_Shift.f (wrap64 (a0 * a1)) a2).bind fun t163 => ((impl_bring_int.f (wrap64 (a3_1 + t163)) 0 255).bind fun t164 => (some t164))) = some r := by rw [if_neg (show ¬ (false = true) by decide)] at H; exact H
    clear H
    have H := H1
    clear H1
    replace H := Option.bind_eq_some_iff.mp H
    obtain ⟨t163, A230, H⟩ := H
    replace H : ((impl_bring_int.f (wrap64 (a3_1 + t163)) 0 255).bind fun t164 => (some t164)) = some r := H
    have A23 := zK A230
    clear A230
    replace H := Option.bind_eq_some_iff.mp H
    obtain ⟨t164, A240, H⟩ := H
    replace H : (some t164) = some r := H
    have A24 := zK A240
    clear A240
    obtain rfl := Option.some.inj H
    try go_wp2
    have n0_ := zK (zd BK158.out)
    have n1_ := zK (ze HB.out)
    clear BK158
    clear HB
    have BK158 := n0_
    have HB := n1_
    clear n0_ n1_
    refine start_ (n := 10) (S := fun w' => w'.cell? ⟨gb158, 0, none⟩ = some (.int .i64 a3_0) ∧ w'.cell? ⟨gb158, 1, none⟩ = some (.int .i64 a3_1)) (ds := []) #[false, false, false, false, false, false, false, false, false, false] (by kernel_rfl) rfl rfl ⟨(zc BK158.out 0).trans rfl, (zc BK158.out 1).trans rfl⟩ (fun hHeld => ?_); refine with_tabW impl_Requant.tab3 impl_Requant.bits3 (fun HT_ HW_ => ?_)
    generalize wc.drew = w25 at BK158 HB hHeld ⊢
    refine pure_ (i := 0) (N := some 27) (v := ?_) (a' := ?_) #[true, false, false, false, false, false, false, false, false, false] rfl rfl (any_of HT_.out (by kernel_rfl)) (fun _ _ _ h => h) (Or.inl ⟨by rfl, ?_⟩) ?_ ?_
    rotate_left
    · intro w'
      go_simp
      with_reducible rfl
    rotate_left
    · simp only [Act.put, List.setIfInBounds_toArray, List.set_cons_zero, List.set_cons_succ, i64_w, i32_w]
      rfl
    refine pure_ (i := 2) (N := some 29) (v := ?_) (a' := ?_) #[true, false, true, false, false, false, false, false, false, false] rfl rfl (any_of HT_.out (by kernel_rfl)) (fun _ _ _ h => h) (Or.inl ⟨by rfl, ?_⟩) ?_ ?_
    rotate_left
    · intro w'
      go_simp
      with_reducible rfl
    rotate_left
    · simp only [Act.put, List.setIfInBounds_toArray, List.set_cons_zero, List.set_cons_succ, i64_w, i32_w]
      rfl
    refine pure_ (i := 3) (N := some 30) (v := ?_) (a' := ?_) #[true, false, true, true, false, false, false, false, false, false] rfl rfl (any_of HT_.out (by kernel_rfl)) (fun _ _ _ h => h) (Or.inl ⟨by rfl, ?_⟩) ?_ ?_
    rotate_left
    · intro w'
      go_simp
      with_reducible rfl
    rotate_left
    · simp only [Act.put, List.setIfInBounds_toArray, List.set_cons_zero, List.set_cons_succ, i64_w, i32_w]
      rfl
    refine pure_ (i := 4) (N := some 31) (v := ?_) (a' := ?_) #[true, false, true, true, true, false, false, false, false, false] rfl rfl (any_of HT_.out (by kernel_rfl)) (fun _ _ _ h => h) (Or.inl ⟨by rfl, ?_⟩) ?_ ?_
    rotate_left
    · intro w'
      go_simp
      with_reducible rfl
    rotate_left
    · simp only [Act.put, List.setIfInBounds_toArray, List.set_cons_zero, List.set_cons_succ, i64_w, i32_w]
      rfl
    refine pure_ (i := 5) (N := some 32) (v := ?_) (a' := ?_) #[true, false, true, true, true, true, false, false, false, false] rfl rfl (any_of HT_.out (by kernel_rfl)) (fun _ _ _ h => h) (Or.inl ⟨by rfl, ?_⟩) ?_ ?_
    rotate_left
    · intro w'
      go_simp
      with_reducible rfl
    rotate_left
    · simp only [Act.put, List.setIfInBounds_toArray, List.set_cons_zero, List.set_cons_succ, i64_w, i32_w]
      rfl
    refine take_ (i := 1) (N := some 28) (v := ?_) (a' := ?_) #[true, true, true, true, true, true, false, false, false, false] rfl rfl (take_ofW HT_.out HW_.out (by kernel_rfl)) (fun _ _ _ h => h) (Or.inl ⟨by rfl, ?_⟩) hHeld ?_ ?_
    rotate_left
    · rintro w' ⟨s0, s1⟩
      go_simp
      with_reducible rfl
    rotate_left
    · simp only [Act.put, List.setIfInBounds_toArray, List.set_cons_zero, List.set_cons_succ, i64_w, i32_w]
      rfl
    refine one_ (i := 6) (N := some 33) #[true, true, true, true, true, true, true, false, false, false] rfl rfl (one_of HT_.out (by kernel_rfl)) (by decide) (fun K hK => ?_)
    refine goes_ Try.func119 (by kernel_rfl) rfl #[.int .i64 (wrap64 (a0 * a1)), .int .i64 a2] (by rfl) rfl rfl zL ?_
    with_reducible refine (impl_Shift.calls (wrap64 (a0 * a1)) a2 t163 _ A23.out).mono ?_
    rintro e w' ⟨rfl, ⟨nd, rfl⟩⟩
    refine ⟨_, rfl, ?_⟩
    refine hK.out _ _ ⟨(zc BK158.out 0).trans rfl, (zc BK158.out 1).trans rfl⟩ (fun hHeld => ?_)
    clear hK K
    refine norm_ (a' := ?_) ?_ ?_
    rotate_left
    · show Act.put _ (some 33) _ = _
      simp only [Act.put, List.setIfInBounds_toArray, List.set_cons_zero, List.set_cons_succ, i64_w, i32_w]
      rfl
    refine pure_ (i := 7) (N := some 34) (v := ?_) (a' := ?_) #[true, true, true, true, true, true, true, true, false, false] rfl rfl (any_of HT_.out (by kernel_rfl)) (fun _ _ _ h => h) (Or.inl ⟨by rfl, ?_⟩) ?_ ?_
    rotate_left
    · intro w'
      go_simp
      with_reducible rfl
    rotate_left
    · simp only [Act.put, List.setIfInBounds_toArray, List.set_cons_zero, List.set_cons_succ, i64_w, i32_w]
      rfl
    refine one_ (i := 8) (N := some 35) #[true, true, true, true, true, true, true, true, true, false] rfl rfl (one_of HT_.out (by kernel_rfl)) (by decide) (fun K hK => ?_)
    refine goes_ Try.func69 (by kernel_rfl) rfl #[.int .i64 (wrap64 (a3_1 + t163)), .int .i64 0, .int .i64 255] (by rfl) rfl rfl zL ?_
    with_reducible refine (impl_bring_int.calls (wrap64 (a3_1 + t163)) 0 255 t164 _ A24.out).mono ?_
    rintro e w26 ⟨rfl, hb⟩
    refine ⟨_, rfl, ?_⟩
    have n0_ := zK (zg (g := gb158) (o := .cells #[.int .i64 a3_0, .int .i64 a3_1] 45 (0, 0)) (by (with_reducible repeat (first | refine zn ?_ _ | refine zd ?_ | refine za ?_ _)); exact BK158.out) hb)
    have n1_ := zK (zp zB hb)
    clear BK158
    clear HB
    have BK158 := n0_
    have HB := n1_
    clear n0_ n1_
    (try clear hb)
    (try clear hb2)
    (try clear hk)
    (try clear hi)
    refine hK.out _ _ ⟨(zc BK158.out 0).trans rfl, (zc BK158.out 1).trans rfl⟩ (fun hHeld => ?_)
    clear hK K
    refine norm_ (a' := ?_) ?_ ?_
    rotate_left
    · show Act.put _ (some 35) _ = _
      simp only [Act.put, List.setIfInBounds_toArray, List.set_cons_zero, List.set_cons_succ, i64_w, i32_w]
      rfl
    refine pure_ (i := 9) (N := some 8) (v := ?_) (a' := ?_) #[true, true, true, true, true, true, true, true, true, true] rfl rfl (any_of HT_.out (by kernel_rfl)) (fun _ _ _ h => h) (Or.inl ⟨by rfl, ?_⟩) ?_ ?_
    rotate_left
    · intro w'
      go_simp
      with_reducible rfl
    rotate_left
    · simp only [Act.put, List.setIfInBounds_toArray, List.set_cons_zero, List.set_cons_succ, i64_w, i32_w]
      rfl
    refine done_ (done_of HT_.out (by kernel_rfl)) ?_
    try go_wp2
    go_ret
    exact ⟨by first | rfl | (simp [errW_none, errW_some] <;> rfl) | (simp [*, errW_none, errW_some] <;> rfl), zB⟩

end Go.Proofs.Ytemcipcijhkhjaa.PFnMatBound
