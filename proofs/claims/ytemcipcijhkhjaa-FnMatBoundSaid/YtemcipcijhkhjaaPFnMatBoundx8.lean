-- Printed out of the translation by this session's own turned copy of a printer; Lean checks it.
import Derived.Test.YtemcipcijhkhjaaPFnMatBoundx0
import Derived.Test.YtemcipcijhkhjaaPFnMatBoundx7
namespace Go.Proofs.Ytemcipcijhkhjaa.PFnMatBound
open Go.RowKit Go.Proofs.YtemcipcijhkhjaaW.PrintWords Go.Proofs.YtemcipcijhkhjaaW.PrintLast Go.Proofs.YtemcipcijhkhjaaW.PrintMore
attribute [local go_sem] max2_int min2_int max_two min_two max_three min_three max_four min_four   -- for this text's walks alone
set_option linter.unusedVariables false
set_option linter.unusedSimpArgs false

/-! ### spec_Factor: function 70 -/
mutual
def spec_Factor.j0 : Nat → Bool → Int → Int → Int → Int → Int → Int → Option (Int × Int × Bool)
  | 0, _, _, _, _, _, _, _ => none
  | k + 1, x42, x207000, x207001, x208000, x208001, x209000, x209001 => if x42 = true then (some (0, 0, false)) else (if (wrap64 (65536 * x209000)) = 0 then (none) else (spec_Factor.l0 k (wrap64 (65536 * x209000)) (wrap64 (Int.tdiv (wrap64 (x207000 * x208000)) (wrap64 (65536 * x209000)))) (Int.tmod (wrap64 (x207000 * x208000)) (wrap64 (65536 * x209000))) 0 (-1) 0))
def spec_Factor.l0 : Nat → Int → Int → Int → Int → Int → Int → Option (Int × Int × Bool)
  | 0, _, _, _, _, _, _ => none
  | k + 1, x9, x10, x11, x12, x13, x14 => if x14 ≤ 62 then ((spec_l2Round.f x10 x11 x9).bind fun t212 => (spec_Factor.j2 k x9 x10 x11 x12 x13 x14 (decide (t212 ≤ 2147483648)))) else (spec_Factor.j2 k x9 x10 x11 x12 x13 x14 false)
def spec_Factor.j2 : Nat → Int → Int → Int → Int → Int → Int → Bool → Option (Int × Int × Bool)
  | 0, _, _, _, _, _, _, _ => none
  | k + 1, x9, x10, x11, x12, x13, x14, x68 => if x68 = true then ((spec_l2Round.f x10 x11 x9).bind fun t213 => (if (wrap64 (2 * x11)) ≥ x9 then (spec_Factor.l0 k x9 (wrap64 ((wrap64 (2 * x10)) + 1)) (wrap64 ((wrap64 (2 * x11)) - x9)) t213 x14 (wrap64 (x14 + 1))) else (spec_Factor.l0 k x9 (wrap64 (2 * x10)) (wrap64 (2 * x11)) t213 x14 (wrap64 (x14 + 1))))) else (if x13 < 0 then (some (0, 0, false)) else (some (x12, x13, true)))
end
def spec_Factor.f (k : Nat) (a0_0 : Int) (a0_1 : Int) (a1_0 : Int) (a1_1 : Int) (a2_0 : Int) (a2_1 : Int) : Option (Int × Int × Bool) := (spec_ScaleOk.f a0_0 a0_1).bind fun t209 => (if t209 = true then ((spec_ScaleOk.f a1_0 a1_1).bind fun t210 => (if t210 = true then ((spec_ScaleOk.f a2_0 a2_1).bind fun t211 => (if t211 = true then (if a0_0 > 16777216 then (spec_Factor.j0 k true a0_0 a0_1 a1_0 a1_1 a2_0 a2_1) else (if a1_0 > 16777216 then (spec_Factor.j0 k true a0_0 a0_1 a1_0 a1_1 a2_0 a2_1) else (spec_Factor.j0 k (decide (a2_0 > 16777216)) a0_0 a0_1 a1_0 a1_1 a2_0 a2_1))) else (spec_Factor.j0 k true a0_0 a0_1 a1_0 a1_1 a2_0 a2_1))) else (spec_Factor.j0 k true a0_0 a0_1 a1_0 a1_1 a2_0 a2_1))) else (spec_Factor.j0 k true a0_0 a0_1 a1_0 a1_1 a2_0 a2_1))
theorem spec_Factor.mono_l : ∀ k, (∀ y0 y1 y2 y3 y4 y5 y6, LeO (spec_Factor.j0 k y0 y1 y2 y3 y4 y5 y6) (spec_Factor.j0 (k + 1) y0 y1 y2 y3 y4 y5 y6)) ∧ (∀ y0 y1 y2 y3 y4 y5, LeO (spec_Factor.l0 k y0 y1 y2 y3 y4 y5) (spec_Factor.l0 (k + 1) y0 y1 y2 y3 y4 y5)) ∧ (∀ y0 y1 y2 y3 y4 y5 y6, LeO (spec_Factor.j2 k y0 y1 y2 y3 y4 y5 y6) (spec_Factor.j2 (k + 1) y0 y1 y2 y3 y4 y5 y6))
  | 0 => ⟨fun _ _ _ _ _ _ _ r h => by simp [spec_Factor.j0] at h, fun _ _ _ _ _ _ r h => by simp [spec_Factor.l0] at h, fun _ _ _ _ _ _ _ r h => by simp [spec_Factor.j2] at h⟩
  | k + 1 => by
    obtain ⟨ih0, ih1, ih2⟩ := spec_Factor.mono_l k
    refine ⟨?_, ?_, ?_⟩
    · intro y0 y1 y2 y3 y4 y5 y6
      unfold spec_Factor.j0
      repeat' first
      | (with_reducible exact ih0 _ _ _ _ _ _ _)
      | (with_reducible exact ih1 _ _ _ _ _ _)
      | (with_reducible exact ih2 _ _ _ _ _ _ _)
      | (with_reducible exact LeO.refl _)
      | (with_reducible exact LeO.none _)
      | (with_reducible refine LeO.ite ?_ ?_)
      | (with_reducible refine LeO.bind ?_ (fun _ => ?_))
      | exact ih0 _ _ _ _ _ _ _
      | exact ih1 _ _ _ _ _ _
      | exact ih2 _ _ _ _ _ _ _
      | exact LeO.none _
      | refine LeO.ite ?_ ?_
      | refine LeO.bind ?_ (fun _ => ?_)
    · intro y0 y1 y2 y3 y4 y5
      unfold spec_Factor.l0
      repeat' first
      | (with_reducible exact ih0 _ _ _ _ _ _ _)
      | (with_reducible exact ih1 _ _ _ _ _ _)
      | (with_reducible exact ih2 _ _ _ _ _ _ _)
      | (with_reducible exact LeO.refl _)
      | (with_reducible exact LeO.none _)
      | (with_reducible refine LeO.ite ?_ ?_)
      | (with_reducible refine LeO.bind ?_ (fun _ => ?_))
      | exact ih0 _ _ _ _ _ _ _
      | exact ih1 _ _ _ _ _ _
      | exact ih2 _ _ _ _ _ _ _
      | exact LeO.none _
      | refine LeO.ite ?_ ?_
      | refine LeO.bind ?_ (fun _ => ?_)
    · intro y0 y1 y2 y3 y4 y5 y6
      unfold spec_Factor.j2
      repeat' first
      | (with_reducible exact ih0 _ _ _ _ _ _ _)
      | (with_reducible exact ih1 _ _ _ _ _ _)
      | (with_reducible exact ih2 _ _ _ _ _ _ _)
      | (with_reducible exact LeO.refl _)
      | (with_reducible exact LeO.none _)
      | (with_reducible refine LeO.ite ?_ ?_)
      | (with_reducible refine LeO.bind ?_ (fun _ => ?_))
      | exact ih0 _ _ _ _ _ _ _
      | exact ih1 _ _ _ _ _ _
      | exact ih2 _ _ _ _ _ _ _
      | exact LeO.none _
      | refine LeO.ite ?_ ?_
      | refine LeO.bind ?_ (fun _ => ?_)
theorem spec_Factor.mono : ∀ a0 a1 a2 a3 a4 a5 k, LeO (spec_Factor.f k a0 a1 a2 a3 a4 a5) (spec_Factor.f (k + 1) a0 a1 a2 a3 a4 a5) := by
  intro a0 a1 a2 a3 a4 a5 k
  obtain ⟨ih0, ih1, ih2⟩ := spec_Factor.mono_l k
  unfold spec_Factor.f
  repeat' first
      | (with_reducible exact ih0 _ _ _ _ _ _ _)
      | (with_reducible exact ih1 _ _ _ _ _ _)
      | (with_reducible exact ih2 _ _ _ _ _ _ _)
      | (with_reducible exact LeO.refl _)
      | (with_reducible exact LeO.none _)
      | (with_reducible refine LeO.ite ?_ ?_)
      | (with_reducible refine LeO.bind ?_ (fun _ => ?_))
      | exact ih0 _ _ _ _ _ _ _
      | exact ih1 _ _ _ _ _ _
      | exact ih2 _ _ _ _ _ _ _
      | exact LeO.none _
      | refine LeO.ite ?_ ?_
      | refine LeO.bind ?_ (fun _ => ?_)
set_option maxHeartbeats 8000000 in
set_option maxRecDepth 100000 in
theorem spec_Factor.calls (k : Nat) (a0_0 : Int) (a0_1 : Int) (a1_0 : Int) (a1_1 : Int) (a2_0 : Int) (a2_1 : Int) (r1 : Int) (r2 : Int) (r3 : Bool) (w : World) (h : spec_Factor.f k a0_0 a0_1 a1_0 a1_1 a2_0 a2_1 = some (r1, r2, r3)) :
    Calls Try.prog 70 #[.agg #[.int .i64 a0_0, .int .i64 a0_1], .agg #[.int .i64 a1_0, .int .i64 a1_1], .agg #[.int .i64 a2_0, .int .i64 a2_1]] w fun e w' => e = .returned (.tuple #[.int .i64 r1, .int .i64 r2, .bool r3]) ∧ Below w.heap.size w w' := by
  have hu45 := Try.underlying45
  have HB := zK (Below.refl w.heap.size w)
  have H : ((spec_ScaleOk.f a0_0 a0_1).bind fun t209 => (if t209 = true then ((spec_ScaleOk.f a1_0 a1_1).bind fun t210 => (if t210 = true then ((spec_ScaleOk.f a2_0 a2_1).bind fun t211 => (if t211 = true then (if a0_0 > 16777216 then (spec_Factor.j0 k true a0_0 a0_1 a1_0 a1_1 a2_0 a2_1) else (if a1_0 > 16777216 then (spec_Factor.j0 k true a0_0 a0_1 a1_0 a1_1 a2_0 a2_1) else (spec_Factor.j0 k (decide (a2_0 > 16777216)) a0_0 a0_1 a1_0 a1_1 a2_0 a2_1))) else (spec_Factor.j0 k true a0_0 a0_1 a1_0 a1_1 a2_0 a2_1))) else (spec_Factor.j0 k true a0_0 a0_1 a1_0 a1_1 a2_0 a2_1))) else (spec_Factor.j0 k true a0_0 a0_1 a1_0 a1_1 a2_0 a2_1))) = some (r1, r2, r3) := h
  clear h
  have HC4 := zK H
  clear H
  go_enter Try.func70, Try.ntmps70
  go_upto_region 1 with (first | ((with_reducible refine gate_dst (N := 3) rfl ?_); refine box_event ?hg (N := 3) ?hd (cs := #[.int .i64 a0_0, .int .i64 a0_1]) (t := 45) ?hr ?_; (case hd => rfl); (case hg => rfl); (case hr => first | (go_simp; done) | (go_simp; rfl)); intro gb206 hg w5 hbox hb; have n0_ := zK (zp zB hb); have n1_ := zK (hbox); have n2_ := zK ((by rw [hg]; exact (zz zB) : w.heap.size ≤ gb206)); have n3_ := zK ((by rw [hg]; exact (zz zB) : w.heap.size ≤ gb206)); clear HB; have HB := n0_; have BK206 := n1_; have GW206 := n2_; have GE206 := n3_; clear n0_ n1_ n2_ n3_; clear hb hbox hg) | ((with_reducible refine gate_dst (N := 4) rfl ?_); refine box_event ?hg (N := 4) ?hd (cs := #[.int .i64 a1_0, .int .i64 a1_1]) (t := 45) ?hr ?_; (case hd => rfl); (case hg => rfl); (case hr => first | (go_simp; done) | (go_simp; rfl)); intro gb207 hg w6 hbox hb; have n0_ := zK (zg (g := gb206) (o := .cells #[.int .i64 a0_0, .int .i64 a0_1] 45 (0, 0)) (by (with_reducible repeat (first | refine zn ?_ _ | refine zd ?_ | refine za ?_ _)); exact BK206.out) hb); have n1_ := zK (zp zB hb); have n2_ := zK (hbox); have n3_ := zK ((by rw [hg]; exact (zz zB) : w.heap.size ≤ gb207)); have n4_ := zK ((by rw [hg]; exact (zz zB) : w.heap.size ≤ gb207)); have n5_ := zK ((by rw [hg]; exact Nat.ne_of_lt (blk_lt (g := gb206) (o := .cells #[.int .i64 a0_0, .int .i64 a0_1] 45 (0, 0)) (by (with_reducible repeat (first | refine zn ?_ _ | refine zd ?_ | refine za ?_ _)); exact BK206.out)) : gb206 ≠ gb207)); have n6_ := zK ((by rw [hg]; exact Nat.ne_of_gt (blk_lt (g := gb206) (o := .cells #[.int .i64 a0_0, .int .i64 a0_1] 45 (0, 0)) (by (with_reducible repeat (first | refine zn ?_ _ | refine zd ?_ | refine za ?_ _)); exact BK206.out)) : gb207 ≠ gb206)); clear BK206; clear HB; have BK206 := n0_; have HB := n1_; have BK207 := n2_; have GW207 := n3_; have GE207 := n4_; have NB206_207 := n5_; have NB207_206 := n6_; clear n0_ n1_ n2_ n3_ n4_ n5_ n6_; clear hb hbox hg) | ((with_reducible refine gate_dst (N := 5) rfl ?_); refine box_event ?hg (N := 5) ?hd (cs := #[.int .i64 a2_0, .int .i64 a2_1]) (t := 45) ?hr ?_; (case hd => rfl); (case hg => rfl); (case hr => first | (go_simp; done) | (go_simp; rfl)); intro gb208 hg w7 hbox hb; have n0_ := zK (zg (g := gb206) (o := .cells #[.int .i64 a0_0, .int .i64 a0_1] 45 (0, 0)) (by (with_reducible repeat (first | refine zn ?_ _ | refine zd ?_ | refine za ?_ _)); exact BK206.out) hb); have n1_ := zK (zg (g := gb207) (o := .cells #[.int .i64 a1_0, .int .i64 a1_1] 45 (0, 0)) (by (with_reducible repeat (first | refine zn ?_ _ | refine zd ?_ | refine za ?_ _)); exact BK207.out) hb); have n2_ := zK (zp zB hb); have n3_ := zK (hbox); have n4_ := zK ((by rw [hg]; exact (zz zB) : w.heap.size ≤ gb208)); have n5_ := zK ((by rw [hg]; exact (zz zB) : w.heap.size ≤ gb208)); have n6_ := zK ((by rw [hg]; exact Nat.ne_of_lt (blk_lt (g := gb206) (o := .cells #[.int .i64 a0_0, .int .i64 a0_1] 45 (0, 0)) (by (with_reducible repeat (first | refine zn ?_ _ | refine zd ?_ | refine za ?_ _)); exact BK206.out)) : gb206 ≠ gb208)); have n7_ := zK ((by rw [hg]; exact Nat.ne_of_gt (blk_lt (g := gb206) (o := .cells #[.int .i64 a0_0, .int .i64 a0_1] 45 (0, 0)) (by (with_reducible repeat (first | refine zn ?_ _ | refine zd ?_ | refine za ?_ _)); exact BK206.out)) : gb208 ≠ gb206)); have n8_ := zK ((by rw [hg]; exact Nat.ne_of_lt (blk_lt (g := gb207) (o := .cells #[.int .i64 a1_0, .int .i64 a1_1] 45 (0, 0)) (by (with_reducible repeat (first | refine zn ?_ _ | refine zd ?_ | refine za ?_ _)); exact BK207.out)) : gb207 ≠ gb208)); have n9_ := zK ((by rw [hg]; exact Nat.ne_of_gt (blk_lt (g := gb207) (o := .cells #[.int .i64 a1_0, .int .i64 a1_1] 45 (0, 0)) (by (with_reducible repeat (first | refine zn ?_ _ | refine zd ?_ | refine za ?_ _)); exact BK207.out)) : gb208 ≠ gb207)); clear BK206; clear BK207; clear HB; have BK206 := n0_; have BK207 := n1_; have HB := n2_; have BK208 := n3_; have GW208 := n4_; have GE208 := n5_; have NB206_208 := n6_; have NB208_206 := n7_; have NB207_208 := n8_; have NB208_207 := n9_; clear n0_ n1_ n2_ n3_ n4_ n5_ n6_ n7_ n8_ n9_; clear hb hbox hg))
  (try simp only [Act.put, List.setIfInBounds_toArray, List.set_cons_zero, List.set_cons_succ])
  go_cut [42] (fun v42 wc => ∃ (kq : Nat) (x42_3 : Bool), v42 = .bool x42_3 ∧ Aside0 (spec_Factor.j0 kq x42_3 a0_0 a0_1 a1_0 a1_1 a2_0 a2_1 = some (r1, r2, r3)) ∧ Aside0 (kq ≤ k) ∧ Aside0 (wc.heap[gb206]? = some (.cells #[.int .i64 a0_0, .int .i64 a0_1] 45 (0, 0))) ∧ Aside0 (wc.heap[gb207]? = some (.cells #[.int .i64 a1_0, .int .i64 a1_1] 45 (0, 0))) ∧ Aside0 (wc.heap[gb208]? = some (.cells #[.int .i64 a2_0, .int .i64 a2_1] 45 (0, 0))) ∧ Aside0 (Below w.heap.size w wc))
  case first =>
   have H := HC4.out
   clear HC4
   replace H := Option.bind_eq_some_iff.mp H
   obtain ⟨t209, A80, H⟩ := H
   replace H : (if t209 = true then ((spec_ScaleOk.f a1_0 a1_1).bind fun t210 => (if t210 = true then ((spec_ScaleOk.f a2_0 a2_1).bind fun t211 => (if t211 = true then (if a0_0 > 16777216 then (spec_Factor.j0 k true a0_0 a0_1 a1_0 a1_1 a2_0 a2_1) else (if a1_0 > 16777216 then (spec_Factor.j0 k true a0_0 a0_1 a1_0 a1_1 a2_0 a2_1) else (spec_Factor.j0 k (decide (a2_0 > 16777216)) a0_0 a0_1 a1_0 a1_1 a2_0 a2_1))) else (spec_Factor.j0 k true a0_0 a0_1 a1_0 a1_1 a2_0 a2_1))) else (spec_Factor.j0 k true a0_0 a0_1 a1_0 a1_1 a2_0 a2_1))) else (spec_Factor.j0 k true a0_0 a0_1 a1_0 a1_1 a2_0 a2_1)) = some (r1, r2, r3) := H
   have A8 := zK A80
   clear A80
   by_cases c9 : t209 = true
   rotate_left
   · replace c9 := Bool.eq_false_iff.mpr c9
     subst c9
     have H1 : (spec_Factor.j0 k true a0_0 a0_1 a1_0 a1_1 a2_0 a2_1) = some (r1, r2, r3) := by rw [if_neg (show ¬ (false = true) by decide)] at H; exact H
     clear H
     have H := H1
     clear H1
     have H' := zK H
     clear H
     have hnb65 := NB206_207.out
     have hnc65 := NB207_206.out
     have hnb66 := NB206_208.out
     have hnc66 := NB208_206.out
     have hcz67_0 : w7.cell? ⟨gb206, 0, none⟩ = some (.int .i64 a0_0) := (zc BK206.out 0).trans rfl
     have hcz67_1 : w7.cell? ⟨gb206, 1, none⟩ = some (.int .i64 a0_1) := (zc BK206.out 1).trans rfl
     have hfz67_0 := zf BK206.out 0
     have hfz67_1 := zf BK206.out 1
     go_wp2_with (first | ((with_reducible refine gate_callee (f := 120) rfl ?_); refine goesL_ (some 16) rfl rfl Try.func120 (by kernel_rfl) rfl #[.agg #[.int .i64 a0_0, .int .i64 a0_1]] rfl zL ?_; (with_reducible refine (spec_ScaleOk.calls a0_0 a0_1 false _ A8.out).mono ?_); rintro e w68 ⟨rfl, hb⟩; refine ⟨_, rfl, ?_⟩; have n0_ := zK (zg (g := gb206) (o := .cells #[.int .i64 a0_0, .int .i64 a0_1] 45 (0, 0)) (by (with_reducible repeat (first | refine zn ?_ _ | refine zd ?_ | refine za ?_ _)); exact BK206.out) hb); have n1_ := zK (zg (g := gb207) (o := .cells #[.int .i64 a1_0, .int .i64 a1_1] 45 (0, 0)) (by (with_reducible repeat (first | refine zn ?_ _ | refine zd ?_ | refine za ?_ _)); exact BK207.out) hb); have n2_ := zK (zg (g := gb208) (o := .cells #[.int .i64 a2_0, .int .i64 a2_1] 45 (0, 0)) (by (with_reducible repeat (first | refine zn ?_ _ | refine zd ?_ | refine za ?_ _)); exact BK208.out) hb); have n3_ := zK (zp zB hb); clear BK206; clear BK207; clear BK208; clear HB; have BK206 := n0_; have BK207 := n1_; have BK208 := n2_; have HB := n3_; clear n0_ n1_ n2_ n3_; (try clear hb); (try clear hb2); (try clear hk); (try clear hi)))
     go_meet
     case rel => exact ⟨_, (true), zR, H', ⟨by first | omega | exact Nat.le_refl _⟩, ⟨by (with_reducible repeat (first | refine zn ?_ _ | refine zd ?_ | refine za ?_ _)); exact BK206.out⟩, ⟨by (with_reducible repeat (first | refine zn ?_ _ | refine zd ?_ | refine za ?_ _)); exact BK207.out⟩, ⟨by (with_reducible repeat (first | refine zn ?_ _ | refine zd ?_ | refine za ?_ _)); exact BK208.out⟩, ⟨zB⟩⟩
   subst c9
   have H1 : ((spec_ScaleOk.f a1_0 a1_1).bind fun t210 => (if t210 = true then ((spec_ScaleOk.f a2_0 a2_1).bind fun t211 => (if t211 = true then (if a0_0 > 16777216 then (spec_Factor.j0 k true a0_0 a0_1 a1_0 a1_1 a2_0 a2_1) else (if a1_0 > 16777216 then (spec_Factor.j0 k true a0_0 a0_1 a1_0 a1_1 a2_0 a2_1) else (spec_Factor.j0 k (decide (a2_0 > 16777216)) a0_0 a0_1 a1_0 a1_1 a2_0 a2_1))) else (spec_Factor.j0 k true a0_0 a0_1 a1_0 a1_1 a2_0 a2_1))) else (spec_Factor.j0 k true a0_0 a0_1 a1_0 a1_1 a2_0 a2_1))) = some (r1, r2, r3) := by rw [if_pos rfl] at H; exact H
   clear H
   have H := H1
   clear H1
   replace H := Option.bind_eq_some_iff.mp H
   obtain ⟨t210, A100, H⟩ := H
   replace H : (if t210 = true then ((spec_ScaleOk.f a2_0 a2_1).bind fun t211 => (if t211 = true then (if a0_0 > 16777216 then (spec_Factor.j0 k true a0_0 a0_1 a1_0 a1_1 a2_0 a2_1) else (if a1_0 > 16777216 then (spec_Factor.j0 k true a0_0 a0_1 a1_0 a1_1 a2_0 a2_1) else (spec_Factor.j0 k (decide (a2_0 > 16777216)) a0_0 a0_1 a1_0 a1_1 a2_0 a2_1))) else (spec_Factor.j0 k true a0_0 a0_1 a1_0 a1_1 a2_0 a2_1))) else (spec_Factor.j0 k true a0_0 a0_1 a1_0 a1_1 a2_0 a2_1)) = some (r1, r2, r3) := H
   have A10 := zK A100
   clear A100
   by_cases c11 : t210 = true
   rotate_left
   · replace c11 := Bool.eq_false_iff.mpr c11
     subst c11
     have H1 : (spec_Factor.j0 k true a0_0 a0_1 a1_0 a1_1 a2_0 a2_1) = some (r1, r2, r3) := by rw [if_neg (show ¬ (false = true) by decide)] at H; exact H
     clear H
     have H := H1
     clear H1
     have H' := zK H
     clear H
     have hnb58 := NB206_207.out
     have hnc58 := NB207_206.out
     have hnb59 := NB206_208.out
     have hnc59 := NB208_206.out
     have hcz60_0 : w7.cell? ⟨gb206, 0, none⟩ = some (.int .i64 a0_0) := (zc BK206.out 0).trans rfl
     have hcz60_1 : w7.cell? ⟨gb206, 1, none⟩ = some (.int .i64 a0_1) := (zc BK206.out 1).trans rfl
     have hfz60_0 := zf BK206.out 0
     have hfz60_1 := zf BK206.out 1
     go_wp2_with (first | ((with_reducible refine gate_callee (f := 120) rfl ?_); refine goesL_ (some 16) rfl rfl Try.func120 (by kernel_rfl) rfl #[.agg #[.int .i64 a0_0, .int .i64 a0_1]] rfl zL ?_; (with_reducible refine (spec_ScaleOk.calls a0_0 a0_1 true _ A8.out).mono ?_); rintro e w61 ⟨rfl, hb⟩; refine ⟨_, rfl, ?_⟩; have n0_ := zK (zg (g := gb206) (o := .cells #[.int .i64 a0_0, .int .i64 a0_1] 45 (0, 0)) (by (with_reducible repeat (first | refine zn ?_ _ | refine zd ?_ | refine za ?_ _)); exact BK206.out) hb); have n1_ := zK (zg (g := gb207) (o := .cells #[.int .i64 a1_0, .int .i64 a1_1] 45 (0, 0)) (by (with_reducible repeat (first | refine zn ?_ _ | refine zd ?_ | refine za ?_ _)); exact BK207.out) hb); have n2_ := zK (zg (g := gb208) (o := .cells #[.int .i64 a2_0, .int .i64 a2_1] 45 (0, 0)) (by (with_reducible repeat (first | refine zn ?_ _ | refine zd ?_ | refine za ?_ _)); exact BK208.out) hb); have n3_ := zK (zp zB hb); clear BK206; clear BK207; clear BK208; clear HB; have BK206 := n0_; have BK207 := n1_; have BK208 := n2_; have HB := n3_; clear n0_ n1_ n2_ n3_; (try clear hb); (try clear hb2); (try clear hk); (try clear hi); have hnb62 := NB207_208.out; have hnc62 := NB208_207.out; have hcz63_0 : w61.cell? ⟨gb207, 0, none⟩ = some (.int .i64 a1_0) := (zc BK207.out 0).trans rfl; have hcz63_1 : w61.cell? ⟨gb207, 1, none⟩ = some (.int .i64 a1_1) := (zc BK207.out 1).trans rfl; have hfz63_0 := zf BK207.out 0; have hfz63_1 := zf BK207.out 1) | (go_at_call 120; (with_reducible refine (spec_ScaleOk.calls a1_0 a1_1 false _ A10.out).mono ?_); rintro e w64 ⟨rfl, hb⟩; have n0_ := zK (zg (g := gb206) (o := .cells #[.int .i64 a0_0, .int .i64 a0_1] 45 (0, 0)) (by (with_reducible repeat (first | refine zn ?_ _ | refine zd ?_ | refine za ?_ _)); exact BK206.out) hb); have n1_ := zK (zg (g := gb207) (o := .cells #[.int .i64 a1_0, .int .i64 a1_1] 45 (0, 0)) (by (with_reducible repeat (first | refine zn ?_ _ | refine zd ?_ | refine za ?_ _)); exact BK207.out) hb); have n2_ := zK (zg (g := gb208) (o := .cells #[.int .i64 a2_0, .int .i64 a2_1] 45 (0, 0)) (by (with_reducible repeat (first | refine zn ?_ _ | refine zd ?_ | refine za ?_ _)); exact BK208.out) hb); have n3_ := zK (zp zB hb); clear BK206; clear BK207; clear BK208; clear HB; have BK206 := n0_; have BK207 := n1_; have BK208 := n2_; have HB := n3_; clear n0_ n1_ n2_ n3_; (try clear hb); (try clear hb2); (try clear hk); (try clear hi)))
     go_meet
     case rel => exact ⟨_, (true), zR, H', ⟨by first | omega | exact Nat.le_refl _⟩, ⟨by (with_reducible repeat (first | refine zn ?_ _ | refine zd ?_ | refine za ?_ _)); exact BK206.out⟩, ⟨by (with_reducible repeat (first | refine zn ?_ _ | refine zd ?_ | refine za ?_ _)); exact BK207.out⟩, ⟨by (with_reducible repeat (first | refine zn ?_ _ | refine zd ?_ | refine za ?_ _)); exact BK208.out⟩, ⟨zB⟩⟩
   subst c11
   have H1 : ((spec_ScaleOk.f a2_0 a2_1).bind fun t211 => (if t211 = true then (if a0_0 > 16777216 then (spec_Factor.j0 k true a0_0 a0_1 a1_0 a1_1 a2_0 a2_1) else (if a1_0 > 16777216 then (spec_Factor.j0 k true a0_0 a0_1 a1_0 a1_1 a2_0 a2_1) else (spec_Factor.j0 k (decide (a2_0 > 16777216)) a0_0 a0_1 a1_0 a1_1 a2_0 a2_1))) else (spec_Factor.j0 k true a0_0 a0_1 a1_0 a1_1 a2_0 a2_1))) = some (r1, r2, r3) := by rw [if_pos rfl] at H; exact H
   clear H
   have H := H1
   clear H1
   replace H := Option.bind_eq_some_iff.mp H
   obtain ⟨t211, A120, H⟩ := H
   replace H : (if t211 = true then (if a0_0 > 16777216 then (spec_Factor.j0 k true a0_0 a0_1 a1_0 a1_1 a2_0 a2_1) else (if a1_0 > 16777216 then (spec_Factor.j0 k true a0_0 a0_1 a1_0 a1_1 a2_0 a2_1) else (spec_Factor.j0 k (decide (a2_0 > 16777216)) a0_0 a0_1 a1_0 a1_1 a2_0 a2_1))) else (spec_Factor.j0 k true a0_0 a0_1 a1_0 a1_1 a2_0 a2_1)) = some (r1, r2, r3) := H
   have A12 := zK A120
   clear A120
   by_cases c13 : t211 = true
   rotate_left
   · replace c13 := Bool.eq_false_iff.mpr c13
     subst c13
     have H1 : (spec_Factor.j0 k true a0_0 a0_1 a1_0 a1_1 a2_0 a2_1) = some (r1, r2, r3) := by rw [if_neg (show ¬ (false = true) by decide)] at H; exact H
     clear H
     have H := H1
     clear H1
     have H' := zK H
     clear H
     have hnb49 := NB206_207.out
     have hnc49 := NB207_206.out
     have hnb50 := NB206_208.out
     have hnc50 := NB208_206.out
     have hcz51_0 : w7.cell? ⟨gb206, 0, none⟩ = some (.int .i64 a0_0) := (zc BK206.out 0).trans rfl
     have hcz51_1 : w7.cell? ⟨gb206, 1, none⟩ = some (.int .i64 a0_1) := (zc BK206.out 1).trans rfl
     have hfz51_0 := zf BK206.out 0
     have hfz51_1 := zf BK206.out 1
     go_wp2_with (first | ((with_reducible refine gate_callee (f := 120) rfl ?_); refine goesL_ (some 16) rfl rfl Try.func120 (by kernel_rfl) rfl #[.agg #[.int .i64 a0_0, .int .i64 a0_1]] rfl zL ?_; (with_reducible refine (spec_ScaleOk.calls a0_0 a0_1 true _ A8.out).mono ?_); rintro e w52 ⟨rfl, hb⟩; refine ⟨_, rfl, ?_⟩; have n0_ := zK (zg (g := gb206) (o := .cells #[.int .i64 a0_0, .int .i64 a0_1] 45 (0, 0)) (by (with_reducible repeat (first | refine zn ?_ _ | refine zd ?_ | refine za ?_ _)); exact BK206.out) hb); have n1_ := zK (zg (g := gb207) (o := .cells #[.int .i64 a1_0, .int .i64 a1_1] 45 (0, 0)) (by (with_reducible repeat (first | refine zn ?_ _ | refine zd ?_ | refine za ?_ _)); exact BK207.out) hb); have n2_ := zK (zg (g := gb208) (o := .cells #[.int .i64 a2_0, .int .i64 a2_1] 45 (0, 0)) (by (with_reducible repeat (first | refine zn ?_ _ | refine zd ?_ | refine za ?_ _)); exact BK208.out) hb); have n3_ := zK (zp zB hb); clear BK206; clear BK207; clear BK208; clear HB; have BK206 := n0_; have BK207 := n1_; have BK208 := n2_; have HB := n3_; clear n0_ n1_ n2_ n3_; (try clear hb); (try clear hb2); (try clear hk); (try clear hi); have hnb53 := NB207_208.out; have hnc53 := NB208_207.out; have hcz54_0 : w52.cell? ⟨gb207, 0, none⟩ = some (.int .i64 a1_0) := (zc BK207.out 0).trans rfl; have hcz54_1 : w52.cell? ⟨gb207, 1, none⟩ = some (.int .i64 a1_1) := (zc BK207.out 1).trans rfl; have hfz54_0 := zf BK207.out 0; have hfz54_1 := zf BK207.out 1) | (go_at_call 120; (with_reducible refine (spec_ScaleOk.calls a1_0 a1_1 true _ A10.out).mono ?_); rintro e w55 ⟨rfl, hb⟩; have n0_ := zK (zg (g := gb206) (o := .cells #[.int .i64 a0_0, .int .i64 a0_1] 45 (0, 0)) (by (with_reducible repeat (first | refine zn ?_ _ | refine zd ?_ | refine za ?_ _)); exact BK206.out) hb); have n1_ := zK (zg (g := gb207) (o := .cells #[.int .i64 a1_0, .int .i64 a1_1] 45 (0, 0)) (by (with_reducible repeat (first | refine zn ?_ _ | refine zd ?_ | refine za ?_ _)); exact BK207.out) hb); have n2_ := zK (zg (g := gb208) (o := .cells #[.int .i64 a2_0, .int .i64 a2_1] 45 (0, 0)) (by (with_reducible repeat (first | refine zn ?_ _ | refine zd ?_ | refine za ?_ _)); exact BK208.out) hb); have n3_ := zK (zp zB hb); clear BK206; clear BK207; clear BK208; clear HB; have BK206 := n0_; have BK207 := n1_; have BK208 := n2_; have HB := n3_; clear n0_ n1_ n2_ n3_; (try clear hb); (try clear hb2); (try clear hk); (try clear hi); have hcz56_0 : w55.cell? ⟨gb208, 0, none⟩ = some (.int .i64 a2_0) := (zc BK208.out 0).trans rfl; have hcz56_1 : w55.cell? ⟨gb208, 1, none⟩ = some (.int .i64 a2_1) := (zc BK208.out 1).trans rfl; have hfz56_0 := zf BK208.out 0; have hfz56_1 := zf BK208.out 1) | (go_at_call 120; (with_reducible refine (spec_ScaleOk.calls a2_0 a2_1 false _ A12.out).mono ?_); rintro e w57 ⟨rfl, hb⟩; have n0_ := zK (zg (g := gb206) (o := .cells #[.int .i64 a0_0, .int .i64 a0_1] 45 (0, 0)) (by (with_reducible repeat (first | refine zn ?_ _ | refine zd ?_ | refine za ?_ _)); exact BK206.out) hb); have n1_ := zK (zg (g := gb207) (o := .cells #[.int .i64 a1_0, .int .i64 a1_1] 45 (0, 0)) (by (with_reducible repeat (first | refine zn ?_ _ | refine zd ?_ | refine za ?_ _)); exact BK207.out) hb); have n2_ := zK (zg (g := gb208) (o := .cells #[.int .i64 a2_0, .int .i64 a2_1] 45 (0, 0)) (by (with_reducible repeat (first | refine zn ?_ _ | refine zd ?_ | refine za ?_ _)); exact BK208.out) hb); have n3_ := zK (zp zB hb); clear BK206; clear BK207; clear BK208; clear HB; have BK206 := n0_; have BK207 := n1_; have BK208 := n2_; have HB := n3_; clear n0_ n1_ n2_ n3_; (try clear hb); (try clear hb2); (try clear hk); (try clear hi)))
     go_meet
     case rel => exact ⟨_, (true), zR, H', ⟨by first | omega | exact Nat.le_refl _⟩, ⟨by (with_reducible repeat (first | refine zn ?_ _ | refine zd ?_ | refine za ?_ _)); exact BK206.out⟩, ⟨by (with_reducible repeat (first | refine zn ?_ _ | refine zd ?_ | refine za ?_ _)); exact BK207.out⟩, ⟨by (with_reducible repeat (first | refine zn ?_ _ | refine zd ?_ | refine za ?_ _)); exact BK208.out⟩, ⟨zB⟩⟩
   subst c13
   have H1 : (if a0_0 > 16777216 then (spec_Factor.j0 k true a0_0 a0_1 a1_0 a1_1 a2_0 a2_1) else (if a1_0 > 16777216 then (spec_Factor.j0 k true a0_0 a0_1 a1_0 a1_1 a2_0 a2_1) else (spec_Factor.j0 k (decide (a2_0 > 16777216)) a0_0 a0_1 a1_0 a1_1 a2_0 a2_1))) = some (r1, r2, r3) := by rw [if_pos rfl] at H; exact H
   clear H
   have H := H1
   clear H1
   by_cases c14 : a0_0 > 16777216
   · rw [if_pos c14] at H
     have c14b0 : decide (16777216 < a0_0) = true := decide_eq_true c14
     clear c14
     (first | rw [c14b0] | (simp only [i64_w, i32_w]; rw [c14b0]) | skip)
     have H' := zK H
     clear H
     have hnb15 := NB206_207.out
     have hnc15 := NB207_206.out
     have hnb16 := NB206_208.out
     have hnc16 := NB208_206.out
     have hcz17_0 : w7.cell? ⟨gb206, 0, none⟩ = some (.int .i64 a0_0) := (zc BK206.out 0).trans rfl
     have hcz17_1 : w7.cell? ⟨gb206, 1, none⟩ = some (.int .i64 a0_1) := (zc BK206.out 1).trans rfl
     have hfz17_0 := zf BK206.out 0
     have hfz17_1 := zf BK206.out 1
     go_wp2_with (first | ((with_reducible refine gate_callee (f := 120) rfl ?_); refine goesL_ (some 16) rfl rfl Try.func120 (by kernel_rfl) rfl #[.agg #[.int .i64 a0_0, .int .i64 a0_1]] rfl zL ?_; (with_reducible refine (spec_ScaleOk.calls a0_0 a0_1 true _ A8.out).mono ?_); rintro e w18 ⟨rfl, hb⟩; refine ⟨_, rfl, ?_⟩; have n0_ := zK (zg (g := gb206) (o := .cells #[.int .i64 a0_0, .int .i64 a0_1] 45 (0, 0)) (by (with_reducible repeat (first | refine zn ?_ _ | refine zd ?_ | refine za ?_ _)); exact BK206.out) hb); have n1_ := zK (zg (g := gb207) (o := .cells #[.int .i64 a1_0, .int .i64 a1_1] 45 (0, 0)) (by (with_reducible repeat (first | refine zn ?_ _ | refine zd ?_ | refine za ?_ _)); exact BK207.out) hb); have n2_ := zK (zg (g := gb208) (o := .cells #[.int .i64 a2_0, .int .i64 a2_1] 45 (0, 0)) (by (with_reducible repeat (first | refine zn ?_ _ | refine zd ?_ | refine za ?_ _)); exact BK208.out) hb); have n3_ := zK (zp zB hb); clear BK206; clear BK207; clear BK208; clear HB; have BK206 := n0_; have BK207 := n1_; have BK208 := n2_; have HB := n3_; clear n0_ n1_ n2_ n3_; (try clear hb); (try clear hb2); (try clear hk); (try clear hi); have hnb19 := NB207_208.out; have hnc19 := NB208_207.out; have hcz20_0 : w18.cell? ⟨gb207, 0, none⟩ = some (.int .i64 a1_0) := (zc BK207.out 0).trans rfl; have hcz20_1 : w18.cell? ⟨gb207, 1, none⟩ = some (.int .i64 a1_1) := (zc BK207.out 1).trans rfl; have hfz20_0 := zf BK207.out 0; have hfz20_1 := zf BK207.out 1) | (go_at_call 120; (with_reducible refine (spec_ScaleOk.calls a1_0 a1_1 true _ A10.out).mono ?_); rintro e w21 ⟨rfl, hb⟩; have n0_ := zK (zg (g := gb206) (o := .cells #[.int .i64 a0_0, .int .i64 a0_1] 45 (0, 0)) (by (with_reducible repeat (first | refine zn ?_ _ | refine zd ?_ | refine za ?_ _)); exact BK206.out) hb); have n1_ := zK (zg (g := gb207) (o := .cells #[.int .i64 a1_0, .int .i64 a1_1] 45 (0, 0)) (by (with_reducible repeat (first | refine zn ?_ _ | refine zd ?_ | refine za ?_ _)); exact BK207.out) hb); have n2_ := zK (zg (g := gb208) (o := .cells #[.int .i64 a2_0, .int .i64 a2_1] 45 (0, 0)) (by (with_reducible repeat (first | refine zn ?_ _ | refine zd ?_ | refine za ?_ _)); exact BK208.out) hb); have n3_ := zK (zp zB hb); clear BK206; clear BK207; clear BK208; clear HB; have BK206 := n0_; have BK207 := n1_; have BK208 := n2_; have HB := n3_; clear n0_ n1_ n2_ n3_; (try clear hb); (try clear hb2); (try clear hk); (try clear hi); have hcz22_0 : w21.cell? ⟨gb208, 0, none⟩ = some (.int .i64 a2_0) := (zc BK208.out 0).trans rfl; have hcz22_1 : w21.cell? ⟨gb208, 1, none⟩ = some (.int .i64 a2_1) := (zc BK208.out 1).trans rfl; have hfz22_0 := zf BK208.out 0; have hfz22_1 := zf BK208.out 1) | (go_at_call 120; (with_reducible refine (spec_ScaleOk.calls a2_0 a2_1 true _ A12.out).mono ?_); rintro e w23 ⟨rfl, hb⟩; have n0_ := zK (zg (g := gb206) (o := .cells #[.int .i64 a0_0, .int .i64 a0_1] 45 (0, 0)) (by (with_reducible repeat (first | refine zn ?_ _ | refine zd ?_ | refine za ?_ _)); exact BK206.out) hb); have n1_ := zK (zg (g := gb207) (o := .cells #[.int .i64 a1_0, .int .i64 a1_1] 45 (0, 0)) (by (with_reducible repeat (first | refine zn ?_ _ | refine zd ?_ | refine za ?_ _)); exact BK207.out) hb); have n2_ := zK (zg (g := gb208) (o := .cells #[.int .i64 a2_0, .int .i64 a2_1] 45 (0, 0)) (by (with_reducible repeat (first | refine zn ?_ _ | refine zd ?_ | refine za ?_ _)); exact BK208.out) hb); have n3_ := zK (zp zB hb); clear BK206; clear BK207; clear BK208; clear HB; have BK206 := n0_; have BK207 := n1_; have BK208 := n2_; have HB := n3_; clear n0_ n1_ n2_ n3_; (try clear hb); (try clear hb2); (try clear hk); (try clear hi); have hcz24_0 : w23.cell? ⟨gb206, 0, none⟩ = some (.int .i64 a0_0) := (zc BK206.out 0).trans rfl; have hcz24_1 : w23.cell? ⟨gb206, 1, none⟩ = some (.int .i64 a0_1) := (zc BK206.out 1).trans rfl; have hfz24_0 := zf BK206.out 0; have hfz24_1 := zf BK206.out 1))
     go_meet
     case rel => exact ⟨_, (true), zR, H', ⟨by first | omega | exact Nat.le_refl _⟩, ⟨by (with_reducible repeat (first | refine zn ?_ _ | refine zd ?_ | refine za ?_ _)); exact BK206.out⟩, ⟨by (with_reducible repeat (first | refine zn ?_ _ | refine zd ?_ | refine za ?_ _)); exact BK207.out⟩, ⟨by (with_reducible repeat (first | refine zn ?_ _ | refine zd ?_ | refine za ?_ _)); exact BK208.out⟩, ⟨zB⟩⟩
   rw [if_neg c14] at H
   have c14b0 : decide (16777216 < a0_0) = false := decide_eq_false c14
   clear c14
   (first | rw [c14b0] | (simp only [i64_w, i32_w]; rw [c14b0]) | skip)
   by_cases c25 : a1_0 > 16777216
   · rw [if_pos c25] at H
     have c25b0 : decide (16777216 < a1_0) = true := decide_eq_true c25
     clear c25
     have H' := zK H
     clear H
     have hnb26 := NB206_207.out
     have hnc26 := NB207_206.out
     have hnb27 := NB206_208.out
     have hnc27 := NB208_206.out
     have hcz28_0 : w7.cell? ⟨gb206, 0, none⟩ = some (.int .i64 a0_0) := (zc BK206.out 0).trans rfl
     have hcz28_1 : w7.cell? ⟨gb206, 1, none⟩ = some (.int .i64 a0_1) := (zc BK206.out 1).trans rfl
     have hfz28_0 := zf BK206.out 0
     have hfz28_1 := zf BK206.out 1
     go_wp2_with (first | ((with_reducible refine gate_callee (f := 120) rfl ?_); refine goesL_ (some 16) rfl rfl Try.func120 (by kernel_rfl) rfl #[.agg #[.int .i64 a0_0, .int .i64 a0_1]] rfl zL ?_; (with_reducible refine (spec_ScaleOk.calls a0_0 a0_1 true _ A8.out).mono ?_); rintro e w29 ⟨rfl, hb⟩; refine ⟨_, rfl, ?_⟩; have n0_ := zK (zg (g := gb206) (o := .cells #[.int .i64 a0_0, .int .i64 a0_1] 45 (0, 0)) (by (with_reducible repeat (first | refine zn ?_ _ | refine zd ?_ | refine za ?_ _)); exact BK206.out) hb); have n1_ := zK (zg (g := gb207) (o := .cells #[.int .i64 a1_0, .int .i64 a1_1] 45 (0, 0)) (by (with_reducible repeat (first | refine zn ?_ _ | refine zd ?_ | refine za ?_ _)); exact BK207.out) hb); have n2_ := zK (zg (g := gb208) (o := .cells #[.int .i64 a2_0, .int .i64 a2_1] 45 (0, 0)) (by (with_reducible repeat (first | refine zn ?_ _ | refine zd ?_ | refine za ?_ _)); exact BK208.out) hb); have n3_ := zK (zp zB hb); clear BK206; clear BK207; clear BK208; clear HB; have BK206 := n0_; have BK207 := n1_; have BK208 := n2_; have HB := n3_; clear n0_ n1_ n2_ n3_; (try clear hb); (try clear hb2); (try clear hk); (try clear hi); have hnb30 := NB207_208.out; have hnc30 := NB208_207.out; have hcz31_0 : w29.cell? ⟨gb207, 0, none⟩ = some (.int .i64 a1_0) := (zc BK207.out 0).trans rfl; have hcz31_1 : w29.cell? ⟨gb207, 1, none⟩ = some (.int .i64 a1_1) := (zc BK207.out 1).trans rfl; have hfz31_0 := zf BK207.out 0; have hfz31_1 := zf BK207.out 1) | (go_at_call 120; (with_reducible refine (spec_ScaleOk.calls a1_0 a1_1 true _ A10.out).mono ?_); rintro e w32 ⟨rfl, hb⟩; have n0_ := zK (zg (g := gb206) (o := .cells #[.int .i64 a0_0, .int .i64 a0_1] 45 (0, 0)) (by (with_reducible repeat (first | refine zn ?_ _ | refine zd ?_ | refine za ?_ _)); exact BK206.out) hb); have n1_ := zK (zg (g := gb207) (o := .cells #[.int .i64 a1_0, .int .i64 a1_1] 45 (0, 0)) (by (with_reducible repeat (first | refine zn ?_ _ | refine zd ?_ | refine za ?_ _)); exact BK207.out) hb); have n2_ := zK (zg (g := gb208) (o := .cells #[.int .i64 a2_0, .int .i64 a2_1] 45 (0, 0)) (by (with_reducible repeat (first | refine zn ?_ _ | refine zd ?_ | refine za ?_ _)); exact BK208.out) hb); have n3_ := zK (zp zB hb); clear BK206; clear BK207; clear BK208; clear HB; have BK206 := n0_; have BK207 := n1_; have BK208 := n2_; have HB := n3_; clear n0_ n1_ n2_ n3_; (try clear hb); (try clear hb2); (try clear hk); (try clear hi); have hcz33_0 : w32.cell? ⟨gb208, 0, none⟩ = some (.int .i64 a2_0) := (zc BK208.out 0).trans rfl; have hcz33_1 : w32.cell? ⟨gb208, 1, none⟩ = some (.int .i64 a2_1) := (zc BK208.out 1).trans rfl; have hfz33_0 := zf BK208.out 0; have hfz33_1 := zf BK208.out 1) | (go_at_call 120; (with_reducible refine (spec_ScaleOk.calls a2_0 a2_1 true _ A12.out).mono ?_); rintro e w34 ⟨rfl, hb⟩; have n0_ := zK (zg (g := gb206) (o := .cells #[.int .i64 a0_0, .int .i64 a0_1] 45 (0, 0)) (by (with_reducible repeat (first | refine zn ?_ _ | refine zd ?_ | refine za ?_ _)); exact BK206.out) hb); have n1_ := zK (zg (g := gb207) (o := .cells #[.int .i64 a1_0, .int .i64 a1_1] 45 (0, 0)) (by (with_reducible repeat (first | refine zn ?_ _ | refine zd ?_ | refine za ?_ _)); exact BK207.out) hb); have n2_ := zK (zg (g := gb208) (o := .cells #[.int .i64 a2_0, .int .i64 a2_1] 45 (0, 0)) (by (with_reducible repeat (first | refine zn ?_ _ | refine zd ?_ | refine za ?_ _)); exact BK208.out) hb); have n3_ := zK (zp zB hb); clear BK206; clear BK207; clear BK208; clear HB; have BK206 := n0_; have BK207 := n1_; have BK208 := n2_; have HB := n3_; clear n0_ n1_ n2_ n3_; (try clear hb); (try clear hb2); (try clear hk); (try clear hi); have hcz35_0 : w34.cell? ⟨gb206, 0, none⟩ = some (.int .i64 a0_0) := (zc BK206.out 0).trans rfl; have hcz35_1 : w34.cell? ⟨gb206, 1, none⟩ = some (.int .i64 a0_1) := (zc BK206.out 1).trans rfl; have hfz35_0 := zf BK206.out 0; have hfz35_1 := zf BK206.out 1; have hcz36_0 : w34.cell? ⟨gb207, 0, none⟩ = some (.int .i64 a1_0) := (zc BK207.out 0).trans rfl; have hcz36_1 : w34.cell? ⟨gb207, 1, none⟩ = some (.int .i64 a1_1) := (zc BK207.out 1).trans rfl; have hfz36_0 := zf BK207.out 0; have hfz36_1 := zf BK207.out 1))
     go_meet
     case rel => exact ⟨_, (true), zR, H', ⟨by first | omega | exact Nat.le_refl _⟩, ⟨by (with_reducible repeat (first | refine zn ?_ _ | refine zd ?_ | refine za ?_ _)); exact BK206.out⟩, ⟨by (with_reducible repeat (first | refine zn ?_ _ | refine zd ?_ | refine za ?_ _)); exact BK207.out⟩, ⟨by (with_reducible repeat (first | refine zn ?_ _ | refine zd ?_ | refine za ?_ _)); exact BK208.out⟩, ⟨zB⟩⟩
   rw [if_neg c25] at H
   have c25b0 : decide (16777216 < a1_0) = false := decide_eq_false c25
   clear c25
   have H' := zK H
   clear H
   have hnb37 := NB206_207.out
   have hnc37 := NB207_206.out
   have hnb38 := NB206_208.out
   have hnc38 := NB208_206.out
   have hcz39_0 : w7.cell? ⟨gb206, 0, none⟩ = some (.int .i64 a0_0) := (zc BK206.out 0).trans rfl
   have hcz39_1 : w7.cell? ⟨gb206, 1, none⟩ = some (.int .i64 a0_1) := (zc BK206.out 1).trans rfl
   have hfz39_0 := zf BK206.out 0
   have hfz39_1 := zf BK206.out 1
   go_wp2_with (first | ((with_reducible refine gate_callee (f := 120) rfl ?_); refine goesL_ (some 16) rfl rfl Try.func120 (by kernel_rfl) rfl #[.agg #[.int .i64 a0_0, .int .i64 a0_1]] rfl zL ?_; (with_reducible refine (spec_ScaleOk.calls a0_0 a0_1 true _ A8.out).mono ?_); rintro e w40 ⟨rfl, hb⟩; refine ⟨_, rfl, ?_⟩; have n0_ := zK (zg (g := gb206) (o := .cells #[.int .i64 a0_0, .int .i64 a0_1] 45 (0, 0)) (by (with_reducible repeat (first | refine zn ?_ _ | refine zd ?_ | refine za ?_ _)); exact BK206.out) hb); have n1_ := zK (zg (g := gb207) (o := .cells #[.int .i64 a1_0, .int .i64 a1_1] 45 (0, 0)) (by (with_reducible repeat (first | refine zn ?_ _ | refine zd ?_ | refine za ?_ _)); exact BK207.out) hb); have n2_ := zK (zg (g := gb208) (o := .cells #[.int .i64 a2_0, .int .i64 a2_1] 45 (0, 0)) (by (with_reducible repeat (first | refine zn ?_ _ | refine zd ?_ | refine za ?_ _)); exact BK208.out) hb); have n3_ := zK (zp zB hb); clear BK206; clear BK207; clear BK208; clear HB; have BK206 := n0_; have BK207 := n1_; have BK208 := n2_; have HB := n3_; clear n0_ n1_ n2_ n3_; (try clear hb); (try clear hb2); (try clear hk); (try clear hi); have hnb41 := NB207_208.out; have hnc41 := NB208_207.out; have hcz42_0 : w40.cell? ⟨gb207, 0, none⟩ = some (.int .i64 a1_0) := (zc BK207.out 0).trans rfl; have hcz42_1 : w40.cell? ⟨gb207, 1, none⟩ = some (.int .i64 a1_1) := (zc BK207.out 1).trans rfl; have hfz42_0 := zf BK207.out 0; have hfz42_1 := zf BK207.out 1) | (go_at_call 120; (with_reducible refine (spec_ScaleOk.calls a1_0 a1_1 true _ A10.out).mono ?_); rintro e w43 ⟨rfl, hb⟩; have n0_ := zK (zg (g := gb206) (o := .cells #[.int .i64 a0_0, .int .i64 a0_1] 45 (0, 0)) (by (with_reducible repeat (first | refine zn ?_ _ | refine zd ?_ | refine za ?_ _)); exact BK206.out) hb); have n1_ := zK (zg (g := gb207) (o := .cells #[.int .i64 a1_0, .int .i64 a1_1] 45 (0, 0)) (by (with_reducible repeat (first | refine zn ?_ _ | refine zd ?_ | refine za ?_ _)); exact BK207.out) hb); have n2_ := zK (zg (g := gb208) (o := .cells #[.int .i64 a2_0, .int .i64 a2_1] 45 (0, 0)) (by (with_reducible repeat (first | refine zn ?_ _ | refine zd ?_ | refine za ?_ _)); exact BK208.out) hb); have n3_ := zK (zp zB hb); clear BK206; clear BK207; clear BK208; clear HB; have BK206 := n0_; have BK207 := n1_; have BK208 := n2_; have HB := n3_; clear n0_ n1_ n2_ n3_; (try clear hb); (try clear hb2); (try clear hk); (try clear hi); have hcz44_0 : w43.cell? ⟨gb208, 0, none⟩ = some (.int .i64 a2_0) := (zc BK208.out 0).trans rfl; have hcz44_1 : w43.cell? ⟨gb208, 1, none⟩ = some (.int .i64 a2_1) := (zc BK208.out 1).trans rfl; have hfz44_0 := zf BK208.out 0; have hfz44_1 := zf BK208.out 1) | (go_at_call 120; (with_reducible refine (spec_ScaleOk.calls a2_0 a2_1 true _ A12.out).mono ?_); rintro e w45 ⟨rfl, hb⟩; have n0_ := zK (zg (g := gb206) (o := .cells #[.int .i64 a0_0, .int .i64 a0_1] 45 (0, 0)) (by (with_reducible repeat (first | refine zn ?_ _ | refine zd ?_ | refine za ?_ _)); exact BK206.out) hb); have n1_ := zK (zg (g := gb207) (o := .cells #[.int .i64 a1_0, .int .i64 a1_1] 45 (0, 0)) (by (with_reducible repeat (first | refine zn ?_ _ | refine zd ?_ | refine za ?_ _)); exact BK207.out) hb); have n2_ := zK (zg (g := gb208) (o := .cells #[.int .i64 a2_0, .int .i64 a2_1] 45 (0, 0)) (by (with_reducible repeat (first | refine zn ?_ _ | refine zd ?_ | refine za ?_ _)); exact BK208.out) hb); have n3_ := zK (zp zB hb); clear BK206; clear BK207; clear BK208; clear HB; have BK206 := n0_; have BK207 := n1_; have BK208 := n2_; have HB := n3_; clear n0_ n1_ n2_ n3_; (try clear hb); (try clear hb2); (try clear hk); (try clear hi); have hcz46_0 : w45.cell? ⟨gb206, 0, none⟩ = some (.int .i64 a0_0) := (zc BK206.out 0).trans rfl; have hcz46_1 : w45.cell? ⟨gb206, 1, none⟩ = some (.int .i64 a0_1) := (zc BK206.out 1).trans rfl; have hfz46_0 := zf BK206.out 0; have hfz46_1 := zf BK206.out 1; have hcz47_0 : w45.cell? ⟨gb207, 0, none⟩ = some (.int .i64 a1_0) := (zc BK207.out 0).trans rfl; have hcz47_1 : w45.cell? ⟨gb207, 1, none⟩ = some (.int .i64 a1_1) := (zc BK207.out 1).trans rfl; have hfz47_0 := zf BK207.out 0; have hfz47_1 := zf BK207.out 1; have hcz48_0 : w45.cell? ⟨gb208, 0, none⟩ = some (.int .i64 a2_0) := (zc BK208.out 0).trans rfl; have hcz48_1 : w45.cell? ⟨gb208, 1, none⟩ = some (.int .i64 a2_1) := (zc BK208.out 1).trans rfl; have hfz48_0 := zf BK208.out 0; have hfz48_1 := zf BK208.out 1))
   go_meet
   case rel => exact ⟨_, (decide (a2_0 > 16777216)), zR, H', ⟨by first | omega | exact Nat.le_refl _⟩, ⟨by (with_reducible repeat (first | refine zn ?_ _ | refine zd ?_ | refine za ?_ _)); exact BK206.out⟩, ⟨by (with_reducible repeat (first | refine zn ?_ _ | refine zd ?_ | refine za ?_ _)); exact BK207.out⟩, ⟨by (with_reducible repeat (first | refine zn ?_ _ | refine zd ?_ | refine za ?_ _)); exact BK208.out⟩, ⟨zB⟩⟩
  case rest =>
   clear HC4
   try clear c1
   try clear c2
   try clear p2
   try clear c3
   try clear c4
   try clear c5
   try clear c6
   try clear c7
   try clear c9
   try clear c11
   try clear c12
   try clear c13
   try clear c14
   try clear c14b0
   try clear c15
   try clear c16
   try clear c19
   try clear c25
   try clear c25b0
   try clear c26
   try clear c27
   try clear c30
   try clear c37
   try clear c38
   try clear c41
   try clear c49
   try clear c50
   try clear c53
   try clear c58
   try clear c59
   try clear c62
   try clear c65
   try clear c66
   try clear hcz17_0
   try clear hcz17_1
   try clear hcz20_0
   try clear hcz20_1
   try clear hcz22_0
   try clear hcz22_1
   try clear hcz24_0
   try clear hcz24_1
   try clear hcz28_0
   try clear hcz28_1
   try clear hcz31_0
   try clear hcz31_1
   try clear hcz33_0
   try clear hcz33_1
   try clear hcz35_0
   try clear hcz35_1
   try clear hcz36_0
   try clear hcz36_1
   try clear hcz39_0
   try clear hcz39_1
   try clear hcz42_0
   try clear hcz42_1
   try clear hcz44_0
   try clear hcz44_1
   try clear hcz46_0
   try clear hcz46_1
   try clear hcz47_0
   try clear hcz47_1
   try clear hcz48_0
   try clear hcz48_1
   try clear hcz51_0
   try clear hcz51_1
   try clear hcz54_0
   try clear hcz54_1
   try clear hcz56_0
   try clear hcz56_1
   try clear hcz60_0
   try clear hcz60_1
   try clear hcz63_0
   try clear hcz63_1
   try clear hcz67_0
   try clear hcz67_1
   try clear hfz17_0
   try clear hfz17_1
   try clear hfz20_0
   try clear hfz20_1
   try clear hfz22_0
   try clear hfz22_1
   try clear hfz24_0
   try clear hfz24_1
   try clear hfz28_0
   try clear hfz28_1
   try clear hfz31_0
   try clear hfz31_1
   try clear hfz33_0
   try clear hfz33_1
   try clear hfz35_0
   try clear hfz35_1
   try clear hfz36_0
   try clear hfz36_1
   try clear hfz39_0
   try clear hfz39_1
   try clear hfz42_0
   try clear hfz42_1
   try clear hfz44_0
   try clear hfz44_1
   try clear hfz46_0
   try clear hfz46_1
   try clear hfz47_0
   try clear hfz47_1
   try clear hfz48_0
   try clear hfz48_1
   try clear hfz51_0
   try clear hfz51_1
   try clear hfz54_0
   try clear hfz54_1
   try clear hfz56_0
   try clear hfz56_1
   try clear hfz60_0
   try clear hfz60_1
   try clear hfz63_0
   try clear hfz63_1
   try clear hfz67_0
   try clear hfz67_1
   obtain ⟨kq, x42_3, rfl, HA, HJ3, BK206, BK207, BK208, HB⟩ := hcut
   cases kq with
   | zero => exact absurd HA.out (by simp [spec_Factor.j0])
   | succ kj3 =>
    have H := HA.out
    clear HA
    simp only [spec_Factor.j0] at H
    by_cases c69 : x42_3 = true
    · subst c69
      have H1 : (some (0, 0, false)) = some (r1, r2, r3) := by rw [if_pos rfl] at H; exact H
      clear H
      have H := H1
      clear H1
      simp only [Option.some.injEq, Prod.mk.injEq] at H
      obtain ⟨rfl, rfl, rfl⟩ := H
      go_wp2
      go_ret3
      exact ⟨by first | rfl | (simp [errW_none, errW_some] <;> rfl) | (simp [*, errW_none, errW_some] <;> rfl), zB⟩
    replace c69 := Bool.eq_false_iff.mpr c69
    subst c69
    have H1 : (if (wrap64 (65536 * a2_0)) = 0 then (none) else (spec_Factor.l0 kj3 (wrap64 (65536 * a2_0)) (wrap64 (Int.tdiv (wrap64 (a0_0 * a1_0)) (wrap64 (65536 * a2_0)))) (Int.tmod (wrap64 (a0_0 * a1_0)) (wrap64 (65536 * a2_0))) 0 (-1) 0)) = some (r1, r2, r3) := by rw [if_neg (show ¬ (false = true) by decide)] at H; exact H
    clear H
    have H := H1
    clear H1
    by_cases c70 : (wrap64 (65536 * a2_0)) = 0
    · rw [if_pos c70] at H
      exact absurd H (by simp)
    rw [if_neg c70] at H
    have c70b0 : ((wrap64 (65536 * a2_0)) == 0) = false := beq_eq_false_iff_ne.mpr c70
    have c70b1 : ((wrap64 (65536 * a2_0)) != 0) = true := bne_iff_ne.mpr c70
    have H' := zK H
    clear H
    have hnb71 := NB208_206.out
    have hnc71 := NB206_208.out
    have hnb72 := NB208_207.out
    have hnc72 := NB207_208.out
    have hcz73_0 : wc.cell? ⟨gb208, 0, none⟩ = some (.int .i64 a2_0) := (zc BK208.out 0).trans rfl
    have hcz73_1 : wc.cell? ⟨gb208, 1, none⟩ = some (.int .i64 a2_1) := (zc BK208.out 1).trans rfl
    have hfz73_0 := zf BK208.out 0
    have hfz73_1 := zf BK208.out 1
    have hnb74 := NB206_207.out
    have hnc74 := NB207_206.out
    have hcz75_0 : wc.cell? ⟨gb206, 0, none⟩ = some (.int .i64 a0_0) := (zc BK206.out 0).trans rfl
    have hcz75_1 : wc.cell? ⟨gb206, 1, none⟩ = some (.int .i64 a0_1) := (zc BK206.out 1).trans rfl
    have hfz75_0 := zf BK206.out 0
    have hfz75_1 := zf BK206.out 1
    have hcz76_0 : wc.cell? ⟨gb207, 0, none⟩ = some (.int .i64 a1_0) := (zc BK207.out 0).trans rfl
    have hcz76_1 : wc.cell? ⟨gb207, 1, none⟩ = some (.int .i64 a1_1) := (zc BK207.out 1).trans rfl
    have hfz76_0 := zf BK207.out 0
    have hfz76_1 := zf BK207.out 1
    go_wp2
    go_loopg [10, 11, 12, 13, 14] kj3 (fun kq v10 v11 v12 v13 v14 w' => ∃ (x10_2 : Int) (x11_2 : Int) (x12_2 : Int) (x13_2 : Int) (x14_2 : Int), v10 = .int .i64 x10_2 ∧ v11 = .int .i64 x11_2 ∧ v12 = .int .i64 x12_2 ∧ v13 = .int .i64 x13_2 ∧ v14 = .int .i64 x14_2 ∧ Aside0 (spec_Factor.l0 kq (wrap64 (65536 * a2_0)) x10_2 x11_2 x12_2 x13_2 x14_2 = some (r1, r2, r3)) ∧ Aside0 (kq ≤ kj3) ∧ Aside0 (w'.heap[gb206]? = some (.cells #[.int .i64 a0_0, .int .i64 a0_1] 45 (0, 0))) ∧ Aside0 (w'.heap[gb207]? = some (.cells #[.int .i64 a1_0, .int .i64 a1_1] 45 (0, 0))) ∧ Aside0 (w'.heap[gb208]? = some (.cells #[.int .i64 a2_0, .int .i64 a2_1] 45 (0, 0))) ∧ Aside0 (Below w.heap.size w w'))
    case atStart => exact ⟨(wrap64 (Int.tdiv (wrap64 (a0_0 * a1_0)) (wrap64 (65536 * a2_0)))), (Int.tmod (wrap64 (a0_0 * a1_0)) (wrap64 (65536 * a2_0))), (0), ((-1)), (0), zR, zR, zR, zR, zR, H', ⟨Nat.le_refl _⟩, ⟨by (with_reducible repeat (first | refine zn ?_ _ | refine zd ?_ | refine za ?_ _)); exact BK206.out⟩, ⟨by (with_reducible repeat (first | refine zn ?_ _ | refine zd ?_ | refine za ?_ _)); exact BK207.out⟩, ⟨by (with_reducible repeat (first | refine zn ?_ _ | refine zd ?_ | refine za ?_ _)); exact BK208.out⟩, ⟨zB⟩⟩
    clear H'
    try clear c1
    try clear c2
    try clear p2
    try clear c3
    try clear c4
    try clear c5
    try clear c6
    try clear p6
    try clear c7
    try clear c9
    try clear c11
    try clear c12
    try clear c13
    try clear c14
    try clear c14b0
    try clear c15
    try clear c16
    try clear c19
    try clear c25
    try clear c25b0
    try clear c26
    try clear c27
    try clear c30
    try clear c37
    try clear c38
    try clear c41
    try clear c49
    try clear c50
    try clear c53
    try clear c58
    try clear c59
    try clear c62
    try clear p64
    try clear c65
    try clear c66
    try clear c69
    try clear c70
    try clear c70b0
    try clear c70b1
    try clear c71
    try clear c72
    try clear c74
    try clear hcz17_0
    try clear hcz17_1
    try clear hcz20_0
    try clear hcz20_1
    try clear hcz22_0
    try clear hcz22_1
    try clear hcz24_0
    try clear hcz24_1
    try clear hcz28_0
    try clear hcz28_1
    try clear hcz31_0
    try clear hcz31_1
    try clear hcz33_0
    try clear hcz33_1
    try clear hcz35_0
    try clear hcz35_1
    try clear hcz36_0
    try clear hcz36_1
    try clear hcz39_0
    try clear hcz39_1
    try clear hcz42_0
    try clear hcz42_1
    try clear hcz44_0
    try clear hcz44_1
    try clear hcz46_0
    try clear hcz46_1
    try clear hcz47_0
    try clear hcz47_1
    try clear hcz48_0
    try clear hcz48_1
    try clear hcz51_0
    try clear hcz51_1
    try clear hcz54_0
    try clear hcz54_1
    try clear hcz56_0
    try clear hcz56_1
    try clear hcz60_0
    try clear hcz60_1
    try clear hcz63_0
    try clear hcz63_1
    try clear hcz67_0
    try clear hcz67_1
    try clear hcz73_0
    try clear hcz73_1
    try clear hcz75_0
    try clear hcz75_1
    try clear hcz76_0
    try clear hcz76_1
    try clear hfz17_0
    try clear hfz17_1
    try clear hfz20_0
    try clear hfz20_1
    try clear hfz22_0
    try clear hfz22_1
    try clear hfz24_0
    try clear hfz24_1
    try clear hfz28_0
    try clear hfz28_1
    try clear hfz31_0
    try clear hfz31_1
    try clear hfz33_0
    try clear hfz33_1
    try clear hfz35_0
    try clear hfz35_1
    try clear hfz36_0
    try clear hfz36_1
    try clear hfz39_0
    try clear hfz39_1
    try clear hfz42_0
    try clear hfz42_1
    try clear hfz44_0
    try clear hfz44_1
    try clear hfz46_0
    try clear hfz46_1
    try clear hfz47_0
    try clear hfz47_1
    try clear hfz48_0
    try clear hfz48_1
    try clear hfz51_0
    try clear hfz51_1
    try clear hfz54_0
    try clear hfz54_1
    try clear hfz56_0
    try clear hfz56_1
    try clear hfz60_0
    try clear hfz60_1
    try clear hfz63_0
    try clear hfz63_1
    try clear hfz67_0
    try clear hfz67_1
    try clear hfz73_0
    try clear hfz73_1
    try clear hfz75_0
    try clear hfz75_1
    try clear hfz76_0
    try clear hfz76_1
    try clear p2
    obtain ⟨x10_2, x11_2, x12_2, x13_2, x14_2, rfl, rfl, rfl, rfl, rfl, HA, HK2, BK206, BK207, BK208, HB⟩ := hrel
    rcases gk with _ | k2
    · exact absurd HA.out (by simp [spec_Factor.l0])
    have H := HA.out
    clear HA
    simp only [spec_Factor.l0] at H
    have HC77 := zK H
    clear H
    go_upto_region 9 with (fail)
    go_cut [68] (fun v68 wc => ∃ (kq : Nat) (x68_76 : Bool), v68 = .bool x68_76 ∧ Aside0 (spec_Factor.j2 kq (wrap64 (65536 * a2_0)) x10_2 x11_2 x12_2 x13_2 x14_2 x68_76 = some (r1, r2, r3)) ∧ Aside0 (kq ≤ k2) ∧ Aside0 (wc.heap[gb206]? = some (.cells #[.int .i64 a0_0, .int .i64 a0_1] 45 (0, 0))) ∧ Aside0 (wc.heap[gb207]? = some (.cells #[.int .i64 a1_0, .int .i64 a1_1] 45 (0, 0))) ∧ Aside0 (wc.heap[gb208]? = some (.cells #[.int .i64 a2_0, .int .i64 a2_1] 45 (0, 0))) ∧ Aside0 (Below w.heap.size w wc))
    case first =>
     have H := HC77.out
     clear HC77
     by_cases c78 : x14_2 ≤ 62
     rotate_left
     · rw [if_neg c78] at H
       have c78b0 : decide (x14_2 ≤ 62) = false := decide_eq_false c78
       clear c78
       (first | rw [c78b0] | (simp only [i64_w, i32_w]; rw [c78b0]) | skip)
       have H' := zK H
       clear H
       go_wp2
       go_meet
       case rel => exact ⟨_, (false), zR, H', ⟨by have := HJ3.out; have := HK2.out; first | omega | exact Nat.le_refl _⟩, ⟨by (with_reducible repeat (first | refine zn ?_ _ | refine zd ?_ | refine za ?_ _)); exact BK206.out⟩, ⟨by (with_reducible repeat (first | refine zn ?_ _ | refine zd ?_ | refine za ?_ _)); exact BK207.out⟩, ⟨by (with_reducible repeat (first | refine zn ?_ _ | refine zd ?_ | refine za ?_ _)); exact BK208.out⟩, ⟨zB⟩⟩
     rw [if_pos c78] at H
     have c78b0 : decide (x14_2 ≤ 62) = true := decide_eq_true c78
     clear c78
     (first | rw [c78b0] | (simp only [i64_w, i32_w]; rw [c78b0]) | skip)
     replace H := Option.bind_eq_some_iff.mp H
     obtain ⟨t212, A790, H⟩ := H
     replace H : (spec_Factor.j2 k2 (wrap64 (65536 * a2_0)) x10_2 x11_2 x12_2 x13_2 x14_2 (decide (t212 ≤ 2147483648))) = some (r1, r2, r3) := H
     have A79 := zK A790
     clear A790
     have H' := zK H
     clear H
     go_wp2_with (first | (go_at_call 121; (with_reducible refine (spec_l2Round.calls x10_2 x11_2 (wrap64 (65536 * a2_0)) t212 _ A79.out).mono ?_); rintro e w' ⟨rfl, ⟨nd, rfl⟩⟩))
     go_meet
     case rel => exact ⟨_, (decide (t212 ≤ 2147483648)), zR, H', ⟨by have := HJ3.out; have := HK2.out; first | omega | exact Nat.le_refl _⟩, ⟨by (with_reducible repeat (first | refine zn ?_ _ | refine zd ?_ | refine za ?_ _)); exact BK206.out⟩, ⟨by (with_reducible repeat (first | refine zn ?_ _ | refine zd ?_ | refine za ?_ _)); exact BK207.out⟩, ⟨by (with_reducible repeat (first | refine zn ?_ _ | refine zd ?_ | refine za ?_ _)); exact BK208.out⟩, ⟨zB⟩⟩
    case rest =>
     clear HC77
     try clear c1
     try clear c2
     try clear p2
     try clear c3
     try clear c4
     try clear c5
     try clear c6
     try clear p6
     try clear c7
     try clear c9
     try clear c11
     try clear c12
     try clear c13
     try clear c14
     try clear c14b0
     try clear c15
     try clear c16
     try clear c19
     try clear c25
     try clear c25b0
     try clear c26
     try clear c27
     try clear c30
     try clear c37
     try clear c38
     try clear c41
     try clear c49
     try clear c50
     try clear c53
     try clear c58
     try clear c59
     try clear c62
     try clear p64
     try clear c65
     try clear c66
     try clear c69
     try clear c70
     try clear c70b0
     try clear c70b1
     try clear c71
     try clear c72
     try clear c74
     try clear c78
     try clear c78b0
     try clear hcz17_0
     try clear hcz17_1
     try clear hcz20_0
     try clear hcz20_1
     try clear hcz22_0
     try clear hcz22_1
     try clear hcz24_0
     try clear hcz24_1
     try clear hcz28_0
     try clear hcz28_1
     try clear hcz31_0
     try clear hcz31_1
     try clear hcz33_0
     try clear hcz33_1
     try clear hcz35_0
     try clear hcz35_1
     try clear hcz36_0
     try clear hcz36_1
     try clear hcz39_0
     try clear hcz39_1
     try clear hcz42_0
     try clear hcz42_1
     try clear hcz44_0
     try clear hcz44_1
     try clear hcz46_0
     try clear hcz46_1
     try clear hcz47_0
     try clear hcz47_1
     try clear hcz48_0
     try clear hcz48_1
     try clear hcz51_0
     try clear hcz51_1
     try clear hcz54_0
     try clear hcz54_1
     try clear hcz56_0
     try clear hcz56_1
     try clear hcz60_0
     try clear hcz60_1
     try clear hcz63_0
     try clear hcz63_1
     try clear hcz67_0
     try clear hcz67_1
     try clear hcz73_0
     try clear hcz73_1
     try clear hcz75_0
     try clear hcz75_1
     try clear hcz76_0
     try clear hcz76_1
     try clear hfz17_0
     try clear hfz17_1
     try clear hfz20_0
     try clear hfz20_1
     try clear hfz22_0
     try clear hfz22_1
     try clear hfz24_0
     try clear hfz24_1
     try clear hfz28_0
     try clear hfz28_1
     try clear hfz31_0
     try clear hfz31_1
     try clear hfz33_0
     try clear hfz33_1
     try clear hfz35_0
     try clear hfz35_1
     try clear hfz36_0
     try clear hfz36_1
     try clear hfz39_0
     try clear hfz39_1
     try clear hfz42_0
     try clear hfz42_1
     try clear hfz44_0
     try clear hfz44_1
     try clear hfz46_0
     try clear hfz46_1
     try clear hfz47_0
     try clear hfz47_1
     try clear hfz48_0
     try clear hfz48_1
     try clear hfz51_0
     try clear hfz51_1
     try clear hfz54_0
     try clear hfz54_1
     try clear hfz56_0
     try clear hfz56_1
     try clear hfz60_0
     try clear hfz60_1
     try clear hfz63_0
     try clear hfz63_1
     try clear hfz67_0
     try clear hfz67_1
     try clear hfz73_0
     try clear hfz73_1
     try clear hfz75_0
     try clear hfz75_1
     try clear hfz76_0
     try clear hfz76_1
     try clear p2
     try clear p6
     try clear p64
     obtain ⟨kq, x68_76, rfl, HA, HJ76, BK206, BK207, BK208, HB⟩ := hcut
     cases kq with
     | zero => exact absurd HA.out (by simp [spec_Factor.j2])
     | succ kj76 =>
      have H := HA.out
      clear HA
      simp only [spec_Factor.j2] at H
      by_cases c80 : x68_76 = true
      rotate_left
      · replace c80 := Bool.eq_false_iff.mpr c80
        subst c80
        have H1 : (if x13_2 < 0 then (some (0, 0, false)) else (some (x12_2, x13_2, true))) = some (r1, r2, r3) := by rw [if_neg (show ¬ (false = true) by decide)] at H; exact H
        clear H
        have H := H1
        clear H1
        by_cases c83 : x13_2 < 0
        · rw [if_pos c83] at H
          have c83b0 : decide (x13_2 < 0) = true := decide_eq_true c83
          clear c83
          simp only [Option.some.injEq, Prod.mk.injEq] at H
          obtain ⟨rfl, rfl, rfl⟩ := H
          go_wp2
          go_ret3
          exact ⟨by first | rfl | (simp [errW_none, errW_some] <;> rfl) | (simp [*, errW_none, errW_some] <;> rfl), zB⟩
        rw [if_neg c83] at H
        have c83b0 : decide (x13_2 < 0) = false := decide_eq_false c83
        clear c83
        simp only [Option.some.injEq, Prod.mk.injEq] at H
        obtain ⟨rfl, rfl, rfl⟩ := H
        go_wp2
        go_ret3
        exact ⟨by first | rfl | (simp [errW_none, errW_some] <;> rfl) | (simp [*, errW_none, errW_some] <;> rfl), zB⟩
      subst c80
      have H1 : ((spec_l2Round.f x10_2 x11_2 (wrap64 (65536 * a2_0))).bind fun t213 => (if (wrap64 (2 * x11_2)) ≥ (wrap64 (65536 * a2_0)) then (spec_Factor.l0 kj76 (wrap64 (65536 * a2_0)) (wrap64 ((wrap64 (2 * x10_2)) + 1)) (wrap64 ((wrap64 (2 * x11_2)) - (wrap64 (65536 * a2_0)))) t213 x14_2 (wrap64 (x14_2 + 1))) else (spec_Factor.l0 kj76 (wrap64 (65536 * a2_0)) (wrap64 (2 * x10_2)) (wrap64 (2 * x11_2)) t213 x14_2 (wrap64 (x14_2 + 1))))) = some (r1, r2, r3) := by rw [if_pos rfl] at H; exact H
      clear H
      have H := H1
      clear H1
      replace H := Option.bind_eq_some_iff.mp H
      obtain ⟨t213, A810, H⟩ := H
      replace H : (if (wrap64 (2 * x11_2)) ≥ (wrap64 (65536 * a2_0)) then (spec_Factor.l0 kj76 (wrap64 (65536 * a2_0)) (wrap64 ((wrap64 (2 * x10_2)) + 1)) (wrap64 ((wrap64 (2 * x11_2)) - (wrap64 (65536 * a2_0)))) t213 x14_2 (wrap64 (x14_2 + 1))) else (spec_Factor.l0 kj76 (wrap64 (65536 * a2_0)) (wrap64 (2 * x10_2)) (wrap64 (2 * x11_2)) t213 x14_2 (wrap64 (x14_2 + 1)))) = some (r1, r2, r3) := H
      have A81 := zK A810
      clear A810
      by_cases c82 : (wrap64 (2 * x11_2)) ≥ (wrap64 (65536 * a2_0))
      rotate_left
      · rw [if_neg c82] at H
        have c82b0 : decide ((wrap64 (65536 * a2_0)) ≤ (wrap64 (2 * x11_2))) = false := decide_eq_false c82
        clear c82
        have H' := zK H
        clear H
        go_wp2_with (first | ((with_reducible refine gate_callee (f := 121) rfl ?_); refine goesL_ (some 74) rfl rfl Try.func121 (by kernel_rfl) rfl #[.int .i64 x10_2, .int .i64 x11_2, .int .i64 (wrap64 (65536 * a2_0))] rfl zL ?_; (with_reducible refine (spec_l2Round.calls x10_2 x11_2 (wrap64 (65536 * a2_0)) t213 _ A81.out).mono ?_); rintro e w' ⟨rfl, ⟨nd, rfl⟩⟩; refine ⟨_, rfl, ?_⟩))
        go_roundg kj76
        case measure => have := HJ3.out; have := HK2.out; have := HJ76.out; omega
        case rel => exact ⟨(wrap64 (2 * x10_2)), (wrap64 (2 * x11_2)), (t213), (x14_2), (wrap64 (x14_2 + 1)), zR, zR, zR, zR, zR, H', ⟨by have := HJ3.out; have := HK2.out; have := HJ76.out; omega⟩, ⟨by (with_reducible repeat (first | refine zn ?_ _ | refine zd ?_ | refine za ?_ _)); exact BK206.out⟩, ⟨by (with_reducible repeat (first | refine zn ?_ _ | refine zd ?_ | refine za ?_ _)); exact BK207.out⟩, ⟨by (with_reducible repeat (first | refine zn ?_ _ | refine zd ?_ | refine za ?_ _)); exact BK208.out⟩, ⟨zB⟩⟩
      rw [if_pos c82] at H
      have c82b0 : decide ((wrap64 (65536 * a2_0)) ≤ (wrap64 (2 * x11_2))) = true := decide_eq_true c82
      clear c82
      have H' := zK H
      clear H
      go_wp2_with (first | ((with_reducible refine gate_callee (f := 121) rfl ?_); refine goesL_ (some 74) rfl rfl Try.func121 (by kernel_rfl) rfl #[.int .i64 x10_2, .int .i64 x11_2, .int .i64 (wrap64 (65536 * a2_0))] rfl zL ?_; (with_reducible refine (spec_l2Round.calls x10_2 x11_2 (wrap64 (65536 * a2_0)) t213 _ A81.out).mono ?_); rintro e w' ⟨rfl, ⟨nd, rfl⟩⟩; refine ⟨_, rfl, ?_⟩))
      go_roundg kj76
      case measure => have := HJ3.out; have := HK2.out; have := HJ76.out; omega
      case rel => exact ⟨(wrap64 ((wrap64 (2 * x10_2)) + 1)), (wrap64 ((wrap64 (2 * x11_2)) - (wrap64 (65536 * a2_0)))), (t213), (x14_2), (wrap64 (x14_2 + 1)), zR, zR, zR, zR, zR, H', ⟨by have := HJ3.out; have := HK2.out; have := HJ76.out; omega⟩, ⟨by (with_reducible repeat (first | refine zn ?_ _ | refine zd ?_ | refine za ?_ _)); exact BK206.out⟩, ⟨by (with_reducible repeat (first | refine zn ?_ _ | refine zd ?_ | refine za ?_ _)); exact BK207.out⟩, ⟨by (with_reducible repeat (first | refine zn ?_ _ | refine zd ?_ | refine za ?_ _)); exact BK208.out⟩, ⟨zB⟩⟩

end Go.Proofs.Ytemcipcijhkhjaa.PFnMatBound
