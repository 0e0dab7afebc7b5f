-- Printed out of the translation by this session's own turned copy of a printer; Lean checks it.
import Derived.Test.YtemcipcijhkhjaaPFnMatBoundx0
import Derived.Test.YtemcipcijhkhjaaPFnMatBoundx7
import Derived.Test.YtemcipcijhkhjaaPFnMatBoundx9
namespace Go.Proofs.Ytemcipcijhkhjaa.PFnMatBound
open Go.RowKit Go.Proofs.YtemcipcijhkhjaaW.PrintWords Go.Proofs.YtemcipcijhkhjaaW.PrintLast Go.Proofs.YtemcipcijhkhjaaW.PrintMore
attribute [local go_sem] max2_int min2_int max_two min_two max_three min_three max_four min_four   -- for this text's walks alone
set_option linter.unusedVariables false
set_option linter.unusedSimpArgs false

/-! ### spec_Requant: function 74 -/
def spec_Requant.j0 : Nat → Int → Int → Int → Bool → Int → Int → Option (Int)
  | 0, _, _, _, _, _, _ => none
  | k + 1, x0, x1, x2, x26, x228000, x228001 => if x26 = true then (some 0) else ((spec_Shift.f k (wrap64 (x0 * x1)) x2).bind fun t232 => ((spec_l14Clip.f (wrap64 (x228001 + t232)) 0 255).bind fun t233 => (some t233)))
def spec_Requant.f (k : Nat) (a0 : Int) (a1 : Int) (a2 : Int) (a3_0 : Int) (a3_1 : Int) : Option (Int) := (spec_ScaleOk.f a3_0 a3_1).bind fun t228 => (if t228 = true then ((spec_l5In.f a0 (-1073741824) 1073741824).bind fun t229 => (if t229 = true then ((spec_l5In.f a1 0 2147483648).bind fun t230 => (if t230 = true then ((spec_l5In.f a2 0 62).bind fun t231 => (spec_Requant.j0 k a0 a1 a2 (!t231) a3_0 a3_1)) else (spec_Requant.j0 k a0 a1 a2 true a3_0 a3_1))) else (spec_Requant.j0 k a0 a1 a2 true a3_0 a3_1))) else (spec_Requant.j0 k a0 a1 a2 true a3_0 a3_1))
theorem spec_Requant.mono_l : ∀ k, (∀ y0 y1 y2 y3 y4 y5, LeO (spec_Requant.j0 k y0 y1 y2 y3 y4 y5) (spec_Requant.j0 (k + 1) y0 y1 y2 y3 y4 y5))
  | 0 => fun _ _ _ _ _ _ r h => by simp [spec_Requant.j0] at h
  | k + 1 => by
    have ih0 := spec_Requant.mono_l k
    · intro y0 y1 y2 y3 y4 y5
      unfold spec_Requant.j0
      repeat' first
      | (with_reducible exact ih0 _ _ _ _ _ _)
      | (with_reducible exact spec_Shift.mono _ _ _)
      | (with_reducible exact LeO.refl _)
      | (with_reducible exact LeO.none _)
      | (with_reducible refine LeO.ite ?_ ?_)
      | (with_reducible refine LeO.bind ?_ (fun _ => ?_))
      | exact ih0 _ _ _ _ _ _
      | exact spec_Shift.mono _ _ _
      | exact LeO.none _
      | refine LeO.ite ?_ ?_
      | refine LeO.bind ?_ (fun _ => ?_)
theorem spec_Requant.mono : ∀ a0 a1 a2 a3 a4 k, LeO (spec_Requant.f k a0 a1 a2 a3 a4) (spec_Requant.f (k + 1) a0 a1 a2 a3 a4) := by
  intro a0 a1 a2 a3 a4 k
  have ih0 := spec_Requant.mono_l k
  unfold spec_Requant.f
  repeat' first
      | (with_reducible exact ih0 _ _ _ _ _ _)
      | (with_reducible exact spec_Shift.mono _ _ _)
      | (with_reducible exact LeO.refl _)
      | (with_reducible exact LeO.none _)
      | (with_reducible refine LeO.ite ?_ ?_)
      | (with_reducible refine LeO.bind ?_ (fun _ => ?_))
      | exact ih0 _ _ _ _ _ _
      | exact spec_Shift.mono _ _ _
      | exact LeO.none _
      | refine LeO.ite ?_ ?_
      | refine LeO.bind ?_ (fun _ => ?_)
set_option maxHeartbeats 8000000 in
set_option maxRecDepth 100000 in
theorem spec_Requant.calls (k : Nat) (a0 : Int) (a1 : Int) (a2 : Int) (a3_0 : Int) (a3_1 : Int) (r : Int) (w : World) (h : spec_Requant.f k a0 a1 a2 a3_0 a3_1 = some r) :
    Calls Try.prog 74 #[.int .i64 a0, .int .i64 a1, .int .i64 a2, .agg #[.int .i64 a3_0, .int .i64 a3_1]] w fun e w' => e = .returned (.int .i64 r) ∧ Below w.heap.size w w' := by
  have hu45 := Try.underlying45
  have HB := zK (Below.refl w.heap.size w)
  have H : ((spec_ScaleOk.f a3_0 a3_1).bind fun t228 => (if t228 = true then ((spec_l5In.f a0 (-1073741824) 1073741824).bind fun t229 => (if t229 = true then ((spec_l5In.f a1 0 2147483648).bind fun t230 => (if t230 = true then ((spec_l5In.f a2 0 62).bind fun t231 => (spec_Requant.j0 k a0 a1 a2 (!t231) a3_0 a3_1)) else (spec_Requant.j0 k a0 a1 a2 true a3_0 a3_1))) else (spec_Requant.j0 k a0 a1 a2 true a3_0 a3_1))) else (spec_Requant.j0 k a0 a1 a2 true a3_0 a3_1))) = some r := h
  clear h
  have HC5 := zK H
  clear H
  go_enter Try.func74, Try.ntmps74
  go_upto_region 1 with (first | ((with_reducible refine gate_dst (N := 7) rfl ?_); refine box_event ?hg (N := 7) ?hd (cs := #[.int .i64 a3_0, .int .i64 a3_1]) (t := 45) ?hr ?_; (case hd => rfl); (case hg => rfl); (case hr => first | (go_simp; done) | (go_simp; rfl)); intro gb227 hg w6 hbox hb; have n0_ := zK (zp zB hb); have n1_ := zK (hbox); have n2_ := zK ((by rw [hg]; exact (zz zB) : w.heap.size ≤ gb227)); have n3_ := zK ((by rw [hg]; exact (zz zB) : w.heap.size ≤ gb227)); clear HB; have HB := n0_; have BK227 := n1_; have GW227 := n2_; have GE227 := n3_; clear n0_ n1_ n2_ n3_; clear hb hbox hg))
  repeat (go_quiet (first | ((with_reducible refine gate_dst (N := 7) rfl ?_); refine box_event ?hg (N := 7) ?hd (cs := #[.int .i64 a3_0, .int .i64 a3_1]) (t := 45) ?hr ?_; (case hd => rfl); (case hg => rfl); (case hr => first | (go_simp; done) | (go_simp; rfl)); intro gb227 hg w6 hbox hb; have n0_ := zK (zp zB hb); have n1_ := zK (hbox); have n2_ := zK ((by rw [hg]; exact (zz zB) : w.heap.size ≤ gb227)); have n3_ := zK ((by rw [hg]; exact (zz zB) : w.heap.size ≤ gb227)); clear HB; have HB := n0_; have BK227 := n1_; have GW227 := n2_; have GE227 := n3_; clear n0_ n1_ n2_ n3_; clear hb hbox hg)); go_upto_region 1 with (first | ((with_reducible refine gate_dst (N := 7) rfl ?_); refine box_event ?hg (N := 7) ?hd (cs := #[.int .i64 a3_0, .int .i64 a3_1]) (t := 45) ?hr ?_; (case hd => rfl); (case hg => rfl); (case hr => first | (go_simp; done) | (go_simp; rfl)); intro gb227 hg w6 hbox hb; have n0_ := zK (zp zB hb); have n1_ := zK (hbox); have n2_ := zK ((by rw [hg]; exact (zz zB) : w.heap.size ≤ gb227)); have n3_ := zK ((by rw [hg]; exact (zz zB) : w.heap.size ≤ gb227)); clear HB; have HB := n0_; have BK227 := n1_; have GW227 := n2_; have GE227 := n3_; clear n0_ n1_ n2_ n3_; clear hb hbox hg)))
  (try simp only [Act.put, List.setIfInBounds_toArray, List.set_cons_zero, List.set_cons_succ])
  go_cut [26] (fun v26 wc => ∃ (kq : Nat) (x26_4 : Bool), v26 = .bool x26_4 ∧ Aside0 (spec_Requant.j0 kq a0 a1 a2 x26_4 a3_0 a3_1 = some r) ∧ Aside0 (kq ≤ k) ∧ Aside0 (wc.heap[gb227]? = some (.cells #[.int .i64 a3_0, .int .i64 a3_1] 45 (0, 0))) ∧ Aside0 (Below w.heap.size w wc))
  case first =>
   have H := HC5.out
   clear HC5
   replace H := Option.bind_eq_some_iff.mp H
   obtain ⟨t228, A70, H⟩ := H
   replace H : (if t228 = true then ((spec_l5In.f a0 (-1073741824) 1073741824).bind fun t229 => (if t229 = true then ((spec_l5In.f a1 0 2147483648).bind fun t230 => (if t230 = true then ((spec_l5In.f a2 0 62).bind fun t231 => (spec_Requant.j0 k a0 a1 a2 (!t231) a3_0 a3_1)) else (spec_Requant.j0 k a0 a1 a2 true a3_0 a3_1))) else (spec_Requant.j0 k a0 a1 a2 true a3_0 a3_1))) else (spec_Requant.j0 k a0 a1 a2 true a3_0 a3_1)) = some r := H
   have A7 := zK A70
   clear A70
   by_cases c8 : t228 = true
   rotate_left
   · replace c8 := Bool.eq_false_iff.mpr c8
     subst c8
     have H1 : (spec_Requant.j0 k a0 a1 a2 true a3_0 a3_1) = some r := by rw [if_neg (show ¬ (false = true) by decide)] at H; exact H
     clear H
     have H := H1
     clear H1
     have H' := zK H
     clear H
     have hcz20_0 : w6.cell? ⟨gb227, 0, none⟩ = some (.int .i64 a3_0) := (zc BK227.out 0).trans rfl
     have hcz20_1 : w6.cell? ⟨gb227, 1, none⟩ = some (.int .i64 a3_1) := (zc BK227.out 1).trans rfl
     have hfz20_0 := zf BK227.out 0
     have hfz20_1 := zf BK227.out 1
     go_wp2_with (first | (go_at_call 120; (with_reducible refine (spec_ScaleOk.calls a3_0 a3_1 false _ A7.out).mono ?_); rintro e w21 ⟨rfl, hb⟩; have n0_ := zK (zg (g := gb227) (o := .cells #[.int .i64 a3_0, .int .i64 a3_1] 45 (0, 0)) (by (with_reducible repeat (first | refine zn ?_ _ | refine zd ?_ | refine za ?_ _)); exact BK227.out) hb); have n1_ := zK (zp zB hb); clear BK227; clear HB; have BK227 := n0_; have HB := n1_; clear n0_ n1_; (try clear hb); (try clear hb2); (try clear hk); (try clear hi)))
     repeat (go_quiet (first | (go_at_call 120; (with_reducible refine (spec_ScaleOk.calls a3_0 a3_1 false _ A7.out).mono ?_); rintro e w21 ⟨rfl, hb⟩; have n0_ := zK (zg (g := gb227) (o := .cells #[.int .i64 a3_0, .int .i64 a3_1] 45 (0, 0)) (by (with_reducible repeat (first | refine zn ?_ _ | refine zd ?_ | refine za ?_ _)); exact BK227.out) hb); have n1_ := zK (zp zB hb); clear BK227; clear HB; have BK227 := n0_; have HB := n1_; clear n0_ n1_; (try clear hb); (try clear hb2); (try clear hk); (try clear hi))); try go_wp2_with (first | (go_at_call 120; (with_reducible refine (spec_ScaleOk.calls a3_0 a3_1 false _ A7.out).mono ?_); rintro e w21 ⟨rfl, hb⟩; have n0_ := zK (zg (g := gb227) (o := .cells #[.int .i64 a3_0, .int .i64 a3_1] 45 (0, 0)) (by (with_reducible repeat (first | refine zn ?_ _ | refine zd ?_ | refine za ?_ _)); exact BK227.out) hb); have n1_ := zK (zp zB hb); clear BK227; clear HB; have BK227 := n0_; have HB := n1_; clear n0_ n1_; (try clear hb); (try clear hb2); (try clear hk); (try clear hi))))
     go_meet
     case rel => exact ⟨_, (true), zR, H', ⟨by first | omega | exact Nat.le_refl _⟩, ⟨by (with_reducible repeat (first | refine zn ?_ _ | refine zd ?_ | refine za ?_ _)); exact BK227.out⟩, ⟨zB⟩⟩
   subst c8
   have H1 : ((spec_l5In.f a0 (-1073741824) 1073741824).bind fun t229 => (if t229 = true then ((spec_l5In.f a1 0 2147483648).bind fun t230 => (if t230 = true then ((spec_l5In.f a2 0 62).bind fun t231 => (spec_Requant.j0 k a0 a1 a2 (!t231) a3_0 a3_1)) else (spec_Requant.j0 k a0 a1 a2 true a3_0 a3_1))) else (spec_Requant.j0 k a0 a1 a2 true a3_0 a3_1))) = some r := by rw [if_pos rfl] at H; exact H
   clear H
   have H := H1
   clear H1
   replace H := Option.bind_eq_some_iff.mp H
   obtain ⟨t229, A90, H⟩ := H
   replace H : (if t229 = true then ((spec_l5In.f a1 0 2147483648).bind fun t230 => (if t230 = true then ((spec_l5In.f a2 0 62).bind fun t231 => (spec_Requant.j0 k a0 a1 a2 (!t231) a3_0 a3_1)) else (spec_Requant.j0 k a0 a1 a2 true a3_0 a3_1))) else (spec_Requant.j0 k a0 a1 a2 true a3_0 a3_1)) = some r := H
   have A9 := zK A90
   clear A90
   by_cases c10 : t229 = true
   rotate_left
   · replace c10 := Bool.eq_false_iff.mpr c10
     subst c10
     have H1 : (spec_Requant.j0 k a0 a1 a2 true a3_0 a3_1) = some r := by rw [if_neg (show ¬ (false = true) by decide)] at H; exact H
     clear H
     have H := H1
     clear H1
     have H' := zK H
     clear H
     have hcz18_0 : w6.cell? ⟨gb227, 0, none⟩ = some (.int .i64 a3_0) := (zc BK227.out 0).trans rfl
     have hcz18_1 : w6.cell? ⟨gb227, 1, none⟩ = some (.int .i64 a3_1) := (zc BK227.out 1).trans rfl
     have hfz18_0 := zf BK227.out 0
     have hfz18_1 := zf BK227.out 1
     go_wp2_with (first | (go_at_call 120; (with_reducible refine (spec_ScaleOk.calls a3_0 a3_1 true _ A7.out).mono ?_); rintro e w19 ⟨rfl, hb⟩; have n0_ := zK (zg (g := gb227) (o := .cells #[.int .i64 a3_0, .int .i64 a3_1] 45 (0, 0)) (by (with_reducible repeat (first | refine zn ?_ _ | refine zd ?_ | refine za ?_ _)); exact BK227.out) hb); have n1_ := zK (zp zB hb); clear BK227; clear HB; have BK227 := n0_; have HB := n1_; clear n0_ n1_; (try clear hb); (try clear hb2); (try clear hk); (try clear hi)) | (go_at_call 71; (with_reducible refine (spec_l5In.calls a0 (-1073741824) 1073741824 false _ A9.out).mono ?_); rintro e w' ⟨rfl, ⟨nd, rfl⟩⟩; (try first | exact ⟨rfl, _, World.drewN_drewN _ _ _⟩ | exact ⟨rfl, _, Eq.trans (World.drewN_drewN _ _ _) (congrArg (World.drewN _) (Nat.add_assoc _ _ _))⟩)))
     repeat (go_quiet (first | (go_at_call 120; (with_reducible refine (spec_ScaleOk.calls a3_0 a3_1 true _ A7.out).mono ?_); rintro e w19 ⟨rfl, hb⟩; have n0_ := zK (zg (g := gb227) (o := .cells #[.int .i64 a3_0, .int .i64 a3_1] 45 (0, 0)) (by (with_reducible repeat (first | refine zn ?_ _ | refine zd ?_ | refine za ?_ _)); exact BK227.out) hb); have n1_ := zK (zp zB hb); clear BK227; clear HB; have BK227 := n0_; have HB := n1_; clear n0_ n1_; (try clear hb); (try clear hb2); (try clear hk); (try clear hi)) | (go_at_call 71; (with_reducible refine (spec_l5In.calls a0 (-1073741824) 1073741824 false _ A9.out).mono ?_); rintro e w' ⟨rfl, ⟨nd, rfl⟩⟩; (try first | exact ⟨rfl, _, World.drewN_drewN _ _ _⟩ | exact ⟨rfl, _, Eq.trans (World.drewN_drewN _ _ _) (congrArg (World.drewN _) (Nat.add_assoc _ _ _))⟩))); try go_wp2_with (first | (go_at_call 120; (with_reducible refine (spec_ScaleOk.calls a3_0 a3_1 true _ A7.out).mono ?_); rintro e w19 ⟨rfl, hb⟩; have n0_ := zK (zg (g := gb227) (o := .cells #[.int .i64 a3_0, .int .i64 a3_1] 45 (0, 0)) (by (with_reducible repeat (first | refine zn ?_ _ | refine zd ?_ | refine za ?_ _)); exact BK227.out) hb); have n1_ := zK (zp zB hb); clear BK227; clear HB; have BK227 := n0_; have HB := n1_; clear n0_ n1_; (try clear hb); (try clear hb2); (try clear hk); (try clear hi)) | (go_at_call 71; (with_reducible refine (spec_l5In.calls a0 (-1073741824) 1073741824 false _ A9.out).mono ?_); rintro e w' ⟨rfl, ⟨nd, rfl⟩⟩; (try first | exact ⟨rfl, _, World.drewN_drewN _ _ _⟩ | exact ⟨rfl, _, Eq.trans (World.drewN_drewN _ _ _) (congrArg (World.drewN _) (Nat.add_assoc _ _ _))⟩))))
     go_meet
     case rel => exact ⟨_, (true), zR, H', ⟨by first | omega | exact Nat.le_refl _⟩, ⟨by (with_reducible repeat (first | refine zn ?_ _ | refine zd ?_ | refine za ?_ _)); exact BK227.out⟩, ⟨zB⟩⟩
   subst c10
   have H1 : ((spec_l5In.f a1 0 2147483648).bind fun t230 => (if t230 = true then ((spec_l5In.f a2 0 62).bind fun t231 => (spec_Requant.j0 k a0 a1 a2 (!t231) a3_0 a3_1)) else (spec_Requant.j0 k a0 a1 a2 true a3_0 a3_1))) = some r := by rw [if_pos rfl] at H; exact H
   clear H
   have H := H1
   clear H1
   replace H := Option.bind_eq_some_iff.mp H
   obtain ⟨t230, A110, H⟩ := H
   replace H : (if t230 = true then ((spec_l5In.f a2 0 62).bind fun t231 => (spec_Requant.j0 k a0 a1 a2 (!t231) a3_0 a3_1)) else (spec_Requant.j0 k a0 a1 a2 true a3_0 a3_1)) = some r := H
   have A11 := zK A110
   clear A110
   by_cases c12 : t230 = true
   rotate_left
   · replace c12 := Bool.eq_false_iff.mpr c12
     subst c12
     have H1 : (spec_Requant.j0 k a0 a1 a2 true a3_0 a3_1) = some r := by rw [if_neg (show ¬ (false = true) by decide)] at H; exact H
     clear H
     have H := H1
     clear H1
     have H' := zK H
     clear H
     have hcz16_0 : w6.cell? ⟨gb227, 0, none⟩ = some (.int .i64 a3_0) := (zc BK227.out 0).trans rfl
     have hcz16_1 : w6.cell? ⟨gb227, 1, none⟩ = some (.int .i64 a3_1) := (zc BK227.out 1).trans rfl
     have hfz16_0 := zf BK227.out 0
     have hfz16_1 := zf BK227.out 1
     go_wp2_with (first | (go_at_call 120; (with_reducible refine (spec_ScaleOk.calls a3_0 a3_1 true _ A7.out).mono ?_); rintro e w17 ⟨rfl, hb⟩; have n0_ := zK (zg (g := gb227) (o := .cells #[.int .i64 a3_0, .int .i64 a3_1] 45 (0, 0)) (by (with_reducible repeat (first | refine zn ?_ _ | refine zd ?_ | refine za ?_ _)); exact BK227.out) hb); have n1_ := zK (zp zB hb); clear BK227; clear HB; have BK227 := n0_; have HB := n1_; clear n0_ n1_; (try clear hb); (try clear hb2); (try clear hk); (try clear hi)) | (go_at_call 71; (with_reducible refine (spec_l5In.calls a0 (-1073741824) 1073741824 true _ A9.out).mono ?_); rintro e w' ⟨rfl, ⟨nd, rfl⟩⟩; (try first | exact ⟨rfl, _, World.drewN_drewN _ _ _⟩ | exact ⟨rfl, _, Eq.trans (World.drewN_drewN _ _ _) (congrArg (World.drewN _) (Nat.add_assoc _ _ _))⟩)) | (go_at_call 71; (with_reducible refine (spec_l5In.calls a1 0 2147483648 false _ A11.out).mono ?_); rintro e w' ⟨rfl, ⟨nd, rfl⟩⟩; (try first | exact ⟨rfl, _, World.drewN_drewN _ _ _⟩ | exact ⟨rfl, _, Eq.trans (World.drewN_drewN _ _ _) (congrArg (World.drewN _) (Nat.add_assoc _ _ _))⟩)))
     repeat (go_quiet (first | (go_at_call 120; (with_reducible refine (spec_ScaleOk.calls a3_0 a3_1 true _ A7.out).mono ?_); rintro e w17 ⟨rfl, hb⟩; have n0_ := zK (zg (g := gb227) (o := .cells #[.int .i64 a3_0, .int .i64 a3_1] 45 (0, 0)) (by (with_reducible repeat (first | refine zn ?_ _ | refine zd ?_ | refine za ?_ _)); exact BK227.out) hb); have n1_ := zK (zp zB hb); clear BK227; clear HB; have BK227 := n0_; have HB := n1_; clear n0_ n1_; (try clear hb); (try clear hb2); (try clear hk); (try clear hi)) | (go_at_call 71; (with_reducible refine (spec_l5In.calls a0 (-1073741824) 1073741824 true _ A9.out).mono ?_); rintro e w' ⟨rfl, ⟨nd, rfl⟩⟩; (try first | exact ⟨rfl, _, World.drewN_drewN _ _ _⟩ | exact ⟨rfl, _, Eq.trans (World.drewN_drewN _ _ _) (congrArg (World.drewN _) (Nat.add_assoc _ _ _))⟩)) | (go_at_call 71; (with_reducible refine (spec_l5In.calls a1 0 2147483648 false _ A11.out).mono ?_); rintro e w' ⟨rfl, ⟨nd, rfl⟩⟩; (try first | exact ⟨rfl, _, World.drewN_drewN _ _ _⟩ | exact ⟨rfl, _, Eq.trans (World.drewN_drewN _ _ _) (congrArg (World.drewN _) (Nat.add_assoc _ _ _))⟩))); try go_wp2_with (first | (go_at_call 120; (with_reducible refine (spec_ScaleOk.calls a3_0 a3_1 true _ A7.out).mono ?_); rintro e w17 ⟨rfl, hb⟩; have n0_ := zK (zg (g := gb227) (o := .cells #[.int .i64 a3_0, .int .i64 a3_1] 45 (0, 0)) (by (with_reducible repeat (first | refine zn ?_ _ | refine zd ?_ | refine za ?_ _)); exact BK227.out) hb); have n1_ := zK (zp zB hb); clear BK227; clear HB; have BK227 := n0_; have HB := n1_; clear n0_ n1_; (try clear hb); (try clear hb2); (try clear hk); (try clear hi)) | (go_at_call 71; (with_reducible refine (spec_l5In.calls a0 (-1073741824) 1073741824 true _ A9.out).mono ?_); rintro e w' ⟨rfl, ⟨nd, rfl⟩⟩; (try first | exact ⟨rfl, _, World.drewN_drewN _ _ _⟩ | exact ⟨rfl, _, Eq.trans (World.drewN_drewN _ _ _) (congrArg (World.drewN _) (Nat.add_assoc _ _ _))⟩)) | (go_at_call 71; (with_reducible refine (spec_l5In.calls a1 0 2147483648 false _ A11.out).mono ?_); rintro e w' ⟨rfl, ⟨nd, rfl⟩⟩; (try first | exact ⟨rfl, _, World.drewN_drewN _ _ _⟩ | exact ⟨rfl, _, Eq.trans (World.drewN_drewN _ _ _) (congrArg (World.drewN _) (Nat.add_assoc _ _ _))⟩))))
     go_meet
     case rel => exact ⟨_, (true), zR, H', ⟨by first | omega | exact Nat.le_refl _⟩, ⟨by (with_reducible repeat (first | refine zn ?_ _ | refine zd ?_ | refine za ?_ _)); exact BK227.out⟩, ⟨zB⟩⟩
   subst c12
   have H1 : ((spec_l5In.f a2 0 62).bind fun t231 => (spec_Requant.j0 k a0 a1 a2 (!t231) a3_0 a3_1)) = some r := by rw [if_pos rfl] at H; exact H
   clear H
   have H := H1
   clear H1
   replace H := Option.bind_eq_some_iff.mp H
   obtain ⟨t231, A130, H⟩ := H
   replace H : (spec_Requant.j0 k a0 a1 a2 (!t231) a3_0 a3_1) = some r := H
   have A13 := zK A130
   clear A130
   have H' := zK H
   clear H
   have hcz14_0 : w6.cell? ⟨gb227, 0, none⟩ = some (.int .i64 a3_0) := (zc BK227.out 0).trans rfl
   have hcz14_1 : w6.cell? ⟨gb227, 1, none⟩ = some (.int .i64 a3_1) := (zc BK227.out 1).trans rfl
   have hfz14_0 := zf BK227.out 0
   have hfz14_1 := zf BK227.out 1
   go_wp2_with (first | (go_at_call 120; (with_reducible refine (spec_ScaleOk.calls a3_0 a3_1 true _ A7.out).mono ?_); rintro e w15 ⟨rfl, hb⟩; have n0_ := zK (zg (g := gb227) (o := .cells #[.int .i64 a3_0, .int .i64 a3_1] 45 (0, 0)) (by (with_reducible repeat (first | refine zn ?_ _ | refine zd ?_ | refine za ?_ _)); exact BK227.out) hb); have n1_ := zK (zp zB hb); clear BK227; clear HB; have BK227 := n0_; have HB := n1_; clear n0_ n1_; (try clear hb); (try clear hb2); (try clear hk); (try clear hi)) | (go_at_call 71; (with_reducible refine (spec_l5In.calls a0 (-1073741824) 1073741824 true _ A9.out).mono ?_); rintro e w' ⟨rfl, ⟨nd, rfl⟩⟩; (try first | exact ⟨rfl, _, World.drewN_drewN _ _ _⟩ | exact ⟨rfl, _, Eq.trans (World.drewN_drewN _ _ _) (congrArg (World.drewN _) (Nat.add_assoc _ _ _))⟩)) | (go_at_call 71; (with_reducible refine (spec_l5In.calls a1 0 2147483648 true _ A11.out).mono ?_); rintro e w' ⟨rfl, ⟨nd, rfl⟩⟩; (try first | exact ⟨rfl, _, World.drewN_drewN _ _ _⟩ | exact ⟨rfl, _, Eq.trans (World.drewN_drewN _ _ _) (congrArg (World.drewN _) (Nat.add_assoc _ _ _))⟩)) | (go_at_call 71; (with_reducible refine (spec_l5In.calls a2 0 62 t231 _ A13.out).mono ?_); rintro e w' ⟨rfl, ⟨nd, rfl⟩⟩; (try first | exact ⟨rfl, _, World.drewN_drewN _ _ _⟩ | exact ⟨rfl, _, Eq.trans (World.drewN_drewN _ _ _) (congrArg (World.drewN _) (Nat.add_assoc _ _ _))⟩)))
   repeat (go_quiet (first | (go_at_call 120; (with_reducible refine (spec_ScaleOk.calls a3_0 a3_1 true _ A7.out).mono ?_); rintro e w15 ⟨rfl, hb⟩; have n0_ := zK (zg (g := gb227) (o := .cells #[.int .i64 a3_0, .int .i64 a3_1] 45 (0, 0)) (by (with_reducible repeat (first | refine zn ?_ _ | refine zd ?_ | refine za ?_ _)); exact BK227.out) hb); have n1_ := zK (zp zB hb); clear BK227; clear HB; have BK227 := n0_; have HB := n1_; clear n0_ n1_; (try clear hb); (try clear hb2); (try clear hk); (try clear hi)) | (go_at_call 71; (with_reducible refine (spec_l5In.calls a0 (-1073741824) 1073741824 true _ A9.out).mono ?_); rintro e w' ⟨rfl, ⟨nd, rfl⟩⟩; (try first | exact ⟨rfl, _, World.drewN_drewN _ _ _⟩ | exact ⟨rfl, _, Eq.trans (World.drewN_drewN _ _ _) (congrArg (World.drewN _) (Nat.add_assoc _ _ _))⟩)) | (go_at_call 71; (with_reducible refine (spec_l5In.calls a1 0 2147483648 true _ A11.out).mono ?_); rintro e w' ⟨rfl, ⟨nd, rfl⟩⟩; (try first | exact ⟨rfl, _, World.drewN_drewN _ _ _⟩ | exact ⟨rfl, _, Eq.trans (World.drewN_drewN _ _ _) (congrArg (World.drewN _) (Nat.add_assoc _ _ _))⟩)) | (go_at_call 71; (with_reducible refine (spec_l5In.calls a2 0 62 t231 _ A13.out).mono ?_); rintro e w' ⟨rfl, ⟨nd, rfl⟩⟩; (try first | exact ⟨rfl, _, World.drewN_drewN _ _ _⟩ | exact ⟨rfl, _, Eq.trans (World.drewN_drewN _ _ _) (congrArg (World.drewN _) (Nat.add_assoc _ _ _))⟩))); try go_wp2_with (first | (go_at_call 120; (with_reducible refine (spec_ScaleOk.calls a3_0 a3_1 true _ A7.out).mono ?_); rintro e w15 ⟨rfl, hb⟩; have n0_ := zK (zg (g := gb227) (o := .cells #[.int .i64 a3_0, .int .i64 a3_1] 45 (0, 0)) (by (with_reducible repeat (first | refine zn ?_ _ | refine zd ?_ | refine za ?_ _)); exact BK227.out) hb); have n1_ := zK (zp zB hb); clear BK227; clear HB; have BK227 := n0_; have HB := n1_; clear n0_ n1_; (try clear hb); (try clear hb2); (try clear hk); (try clear hi)) | (go_at_call 71; (with_reducible refine (spec_l5In.calls a0 (-1073741824) 1073741824 true _ A9.out).mono ?_); rintro e w' ⟨rfl, ⟨nd, rfl⟩⟩; (try first | exact ⟨rfl, _, World.drewN_drewN _ _ _⟩ | exact ⟨rfl, _, Eq.trans (World.drewN_drewN _ _ _) (congrArg (World.drewN _) (Nat.add_assoc _ _ _))⟩)) | (go_at_call 71; (with_reducible refine (spec_l5In.calls a1 0 2147483648 true _ A11.out).mono ?_); rintro e w' ⟨rfl, ⟨nd, rfl⟩⟩; (try first | exact ⟨rfl, _, World.drewN_drewN _ _ _⟩ | exact ⟨rfl, _, Eq.trans (World.drewN_drewN _ _ _) (congrArg (World.drewN _) (Nat.add_assoc _ _ _))⟩)) | (go_at_call 71; (with_reducible refine (spec_l5In.calls a2 0 62 t231 _ A13.out).mono ?_); rintro e w' ⟨rfl, ⟨nd, rfl⟩⟩; (try first | exact ⟨rfl, _, World.drewN_drewN _ _ _⟩ | exact ⟨rfl, _, Eq.trans (World.drewN_drewN _ _ _) (congrArg (World.drewN _) (Nat.add_assoc _ _ _))⟩))))
   go_meet
   case rel => exact ⟨_, (!t231), zR, H', ⟨by first | omega | exact Nat.le_refl _⟩, ⟨by (with_reducible repeat (first | refine zn ?_ _ | refine zd ?_ | refine za ?_ _)); exact BK227.out⟩, ⟨zB⟩⟩
  case rest =>
   clear HC5
   try clear c1
   try clear p2
   try clear c7
   try clear c8
   try clear c10
   try clear c12
   try clear hcz14_0
   try clear hcz14_1
   try clear hcz16_0
   try clear hcz16_1
   try clear hcz18_0
   try clear hcz18_1
   try clear hcz20_0
   try clear hcz20_1
   try clear hfz14_0
   try clear hfz14_1
   try clear hfz16_0
   try clear hfz16_1
   try clear hfz18_0
   try clear hfz18_1
   try clear hfz20_0
   try clear hfz20_1
   obtain ⟨kq, x26_4, rfl, HA, HJ4, BK227, HB⟩ := hcut
   cases kq with
   | zero => exact absurd HA.out (by simp [spec_Requant.j0])
   | succ kj4 =>
    have H := HA.out
    clear HA
    simp only [spec_Requant.j0] at H
    by_cases c22 : x26_4 = true
    · subst c22
      have H1 : (some 0) = some r := by rw [if_pos rfl] at H; exact H
      clear H
      have H := H1
      clear H1
      obtain rfl := Option.some.inj H
      go_wp2
      repeat (go_quiet (fail); try go_wp2)
      go_ret
      exact ⟨by first | rfl | (simp [errW_none, errW_some] <;> rfl) | (simp [*, errW_none, errW_some] <;> rfl), zB⟩
    replace c22 := Bool.eq_false_iff.mpr c22
    subst c22
    have H1 : ((spec_Shift.f kj4 (wrap64 (a0 * a1)) a2).bind fun t232 => ((spec_l14Clip.f (wrap64 (a3_1 + t232)) 0 255).bind fun t233 => (some t233))) = some r := by rw [if_neg (show ¬ (false = true) by decide)] at H; exact H
    clear H
    have H := H1
    clear H1
    replace H := Option.bind_eq_some_iff.mp H
    obtain ⟨t232, A230, H⟩ := H
    replace H : ((spec_l14Clip.f (wrap64 (a3_1 + t232)) 0 255).bind fun t233 => (some t233)) = some r := H
    have A23 := zK A230
    clear A230
    replace H := Option.bind_eq_some_iff.mp H
    obtain ⟨t233, A240, H⟩ := H
    replace H : (some t233) = some r := H
    have A24 := zK A240
    clear A240
    obtain rfl := Option.some.inj H
    have hcz25_0 : wc.cell? ⟨gb227, 0, none⟩ = some (.int .i64 a3_0) := (zc BK227.out 0).trans rfl
    have hcz25_1 : wc.cell? ⟨gb227, 1, none⟩ = some (.int .i64 a3_1) := (zc BK227.out 1).trans rfl
    have hfz25_0 := zf BK227.out 0
    have hfz25_1 := zf BK227.out 1
    go_wp2_with (first | (go_at_call 122; (with_reducible refine (spec_Shift.calls kj4 (wrap64 (a0 * a1)) a2 t232 _ A23.out).mono ?_); rintro e w' ⟨rfl, ⟨nd, rfl⟩⟩; (try first | exact ⟨rfl, _, World.drewN_drewN _ _ _⟩ | exact ⟨rfl, _, Eq.trans (World.drewN_drewN _ _ _) (congrArg (World.drewN _) (Nat.add_assoc _ _ _))⟩)) | (go_at_call 75; (with_reducible refine (spec_l14Clip.calls (wrap64 (a3_1 + t232)) 0 255 t233 _ A24.out).mono ?_); rintro e w' ⟨rfl, ⟨nd, rfl⟩⟩; (try first | exact ⟨rfl, _, World.drewN_drewN _ _ _⟩ | exact ⟨rfl, _, Eq.trans (World.drewN_drewN _ _ _) (congrArg (World.drewN _) (Nat.add_assoc _ _ _))⟩)))
    repeat (go_quiet (first | (go_at_call 122; (with_reducible refine (spec_Shift.calls kj4 (wrap64 (a0 * a1)) a2 t232 _ A23.out).mono ?_); rintro e w' ⟨rfl, ⟨nd, rfl⟩⟩; (try first | exact ⟨rfl, _, World.drewN_drewN _ _ _⟩ | exact ⟨rfl, _, Eq.trans (World.drewN_drewN _ _ _) (congrArg (World.drewN _) (Nat.add_assoc _ _ _))⟩)) | (go_at_call 75; (with_reducible refine (spec_l14Clip.calls (wrap64 (a3_1 + t232)) 0 255 t233 _ A24.out).mono ?_); rintro e w' ⟨rfl, ⟨nd, rfl⟩⟩; (try first | exact ⟨rfl, _, World.drewN_drewN _ _ _⟩ | exact ⟨rfl, _, Eq.trans (World.drewN_drewN _ _ _) (congrArg (World.drewN _) (Nat.add_assoc _ _ _))⟩))); try go_wp2_with (first | (go_at_call 122; (with_reducible refine (spec_Shift.calls kj4 (wrap64 (a0 * a1)) a2 t232 _ A23.out).mono ?_); rintro e w' ⟨rfl, ⟨nd, rfl⟩⟩; (try first | exact ⟨rfl, _, World.drewN_drewN _ _ _⟩ | exact ⟨rfl, _, Eq.trans (World.drewN_drewN _ _ _) (congrArg (World.drewN _) (Nat.add_assoc _ _ _))⟩)) | (go_at_call 75; (with_reducible refine (spec_l14Clip.calls (wrap64 (a3_1 + t232)) 0 255 t233 _ A24.out).mono ?_); rintro e w' ⟨rfl, ⟨nd, rfl⟩⟩; (try first | exact ⟨rfl, _, World.drewN_drewN _ _ _⟩ | exact ⟨rfl, _, Eq.trans (World.drewN_drewN _ _ _) (congrArg (World.drewN _) (Nat.add_assoc _ _ _))⟩))))
    go_ret
    exact ⟨by first | rfl | (simp [errW_none, errW_some] <;> rfl) | (simp [*, errW_none, errW_some] <;> rfl), zB⟩

end Go.Proofs.Ytemcipcijhkhjaa.PFnMatBound
