-- Printed out of the translation by this session's own turned copy of a printer; Lean checks it.
import Derived.Test.YtemcipcijhkhjaaPFnMatBoundx0
import Derived.Test.YtemcipcijhkhjaaPFnMatBoundx7
namespace Go.Proofs.Ytemcipcijhkhjaa.PFnMatBound
open Go.RowKit Go.Proofs.YtemcipcijhkhjaaW.PrintWords Go.Proofs.YtemcipcijhkhjaaW.PrintLast Go.Proofs.YtemcipcijhkhjaaW.PrintMore
attribute [local go_sem] max2_int min2_int max_two min_two max_three min_three max_four min_four   -- for this text's walks alone
set_option linter.unusedVariables false
set_option linter.unusedSimpArgs false

/-! ### spec_l14Bytes: function 72 -/
def spec_l14Bytes.l0 : Nat → List Int → Int → Option (Bool)
  | 0, _, _ => none
  | k + 1, x0, x3 => if x3 < (x0.length : Int) then (if 0 ≤ x3 then ((spec_l5In.f (rd x0 x3) 0 255).bind fun t215 => (if t215 = true then (spec_l14Bytes.l0 k x0 (wrap64 (x3 + 1))) else (some false))) else (none)) else (some (decide ((x0.length : Int) ≤ 4096)))
def spec_l14Bytes.f (k : Nat) (l0 : List Int) : Option (Bool) := spec_l14Bytes.l0 k l0 0
theorem spec_l14Bytes.mono_l : ∀ k, (∀ y0 y1, LeO (spec_l14Bytes.l0 k y0 y1) (spec_l14Bytes.l0 (k + 1) y0 y1))
  | 0 => fun _ _ r h => by simp [spec_l14Bytes.l0] at h
  | k + 1 => by
    have ih0 := spec_l14Bytes.mono_l k
    · intro y0 y1
      unfold spec_l14Bytes.l0
      repeat' first
      | (with_reducible exact ih0 _ _)
      | (with_reducible exact LeO.refl _)
      | (with_reducible exact LeO.none _)
      | (with_reducible refine LeO.ite ?_ ?_)
      | (with_reducible refine LeO.bind ?_ (fun _ => ?_))
      | exact ih0 _ _
      | exact LeO.none _
      | refine LeO.ite ?_ ?_
      | refine LeO.bind ?_ (fun _ => ?_)
theorem spec_l14Bytes.mono : ∀ a0 k, LeO (spec_l14Bytes.f k a0) (spec_l14Bytes.f (k + 1) a0) := by
  intro a0 k
  have ih0 := spec_l14Bytes.mono_l k
  unfold spec_l14Bytes.f
  repeat' first
      | (with_reducible exact ih0 _ _)
      | (with_reducible exact LeO.refl _)
      | (with_reducible exact LeO.none _)
      | (with_reducible refine LeO.ite ?_ ?_)
      | (with_reducible refine LeO.bind ?_ (fun _ => ?_))
      | exact ih0 _ _
      | exact LeO.none _
      | refine LeO.ite ?_ ?_
      | refine LeO.bind ?_ (fun _ => ?_)
set_option maxHeartbeats 8000000 in
set_option maxRecDepth 100000 in
theorem spec_l14Bytes.calls (k : Nat) (A0 : Option Addr) (c0 : Nat) (l0 : List Int) (r : Bool) (w : World) (hr0 : Kd.C (Kd.int .i64) w A0 l0.length l0) (hc0 : l0.length ≤ c0) (h : spec_l14Bytes.f k l0 = some r) :
    Calls Try.prog 72 #[.slice A0 l0.length c0] w fun e w' => e = .returned (.bool r) ∧ Drawn0 w w' := by
  have HR0 := zK hr0
  have HC0 := zK hc0
  clear hr0 hc0
  have H : (spec_l14Bytes.l0 k l0 0) = some r := h
  clear h
  have H' := zK H
  clear H
  go_enter Try.func72, Try.ntmps72
  go_wp2
  go_loopg [3] k (fun kq v3 w' => ∃ (x3_1 : Int), v3 = .int .i64 x3_1 ∧ Aside0 (spec_l14Bytes.l0 kq l0 x3_1 = some r) ∧ Aside0 (kq ≤ k) ∧ Drawn0 w w')
  case atStart => exact ⟨(0), zR, H', ⟨Nat.le_refl _⟩, zD⟩
  clear H'
  obtain ⟨x3_1, rfl, HA, HK1, ⟨m1, rfl⟩⟩ := hrel
  rcases gk with _ | k1
  · exact absurd HA.out (by simp [spec_l14Bytes.l0])
  have H := HA.out
  clear HA
  simp only [spec_l14Bytes.l0] at H
  by_cases c2 : x3_1 < (l0.length : Int)
  rotate_left
  · rw [if_neg c2] at H
    have c2b0 : decide (x3_1 < (l0.length : Int)) = false := decide_eq_false c2
    clear c2
    obtain rfl := Option.some.inj H
    go_wp2
    go_ret
    exact ⟨zR, zD⟩
  rw [if_pos c2] at H
  have c2b0 : decide (x3_1 < (l0.length : Int)) = true := decide_eq_true c2
  clear c2
  by_cases c3 : 0 ≤ x3_1
  rotate_left
  · rw [if_neg c3] at H
    exact absurd H (by simp)
  rw [if_pos c3] at H
  have c3b0 : decide (0 ≤ x3_1) = true := decide_eq_true c3
  clear c3
  replace H := Option.bind_eq_some_iff.mp H
  obtain ⟨t215, A40, H⟩ := H
  replace H : (if t215 = true then (spec_l14Bytes.l0 k1 l0 (wrap64 (x3_1 + 1))) else (some false)) = some r := H
  have A4 := zK A40
  clear A40
  by_cases c5 : t215 = true
  rotate_left
  · replace c5 := Bool.eq_false_iff.mpr c5
    subst c5
    have H1 : (some false) = some r := by rw [if_neg (show ¬ (false = true) by decide)] at H; exact H
    clear H
    have H := H1
    clear H1
    obtain rfl := Option.some.inj H
    have p214 : 0 ≤ (x3_1 : Int) := of_decide_eq_true zA
    have q214 : x3_1 < (l0.length : Int) := of_decide_eq_true zA
    obtain ⟨ad214, e214, hx214_0⟩ := Kd.at_int HR0.out x3_1 p214 q214
    cases e214
    replace p214 := eq_true p214
    replace q214 := eq_true q214
    go_wp2_with (first | ((with_reducible refine gate_callee (f := 71) rfl ?_); refine goesL_ (some 14) rfl rfl Try.func71 (by kernel_rfl) rfl #[.int .i64 (rd l0 x3_1), .int .i64 0, .int .i64 255] rfl zL ?_; (with_reducible refine (spec_l5In.calls (rd l0 x3_1) 0 255 false _ A4.out).mono ?_); rintro e w' ⟨rfl, ⟨nd, rfl⟩⟩; refine ⟨_, rfl, ?_⟩))
    go_ret
    exact ⟨zR, zD⟩
  subst c5
  have H1 : (spec_l14Bytes.l0 k1 l0 (wrap64 (x3_1 + 1))) = some r := by rw [if_pos rfl] at H; exact H
  clear H
  have H := H1
  clear H1
  have H' := zK H
  clear H
  have p214 : 0 ≤ (x3_1 : Int) := of_decide_eq_true zA
  have q214 : x3_1 < (l0.length : Int) := of_decide_eq_true zA
  obtain ⟨ad214, e214, hx214_0⟩ := Kd.at_int HR0.out x3_1 p214 q214
  cases e214
  replace p214 := eq_true p214
  replace q214 := eq_true q214
  go_wp2_with (first | ((with_reducible refine gate_callee (f := 71) rfl ?_); refine goesL_ (some 14) rfl rfl Try.func71 (by kernel_rfl) rfl #[.int .i64 (rd l0 x3_1), .int .i64 0, .int .i64 255] rfl zL ?_; (with_reducible refine (spec_l5In.calls (rd l0 x3_1) 0 255 true _ A4.out).mono ?_); rintro e w' ⟨rfl, ⟨nd, rfl⟩⟩; refine ⟨_, rfl, ?_⟩))
  go_roundg k1
  case measure => have := HK1.out; omega
  case rel => exact ⟨(wrap64 (x3_1 + 1)), zR, H', ⟨by have := HK1.out; omega⟩, zD⟩

/-! ### spec_DotBytes: function 73 -/
mutual
def spec_DotBytes.j0 : Nat → List Int → List Int → Bool → Int → Int → Int → Int → Option (Int)
  | 0, _, _, _, _, _, _, _ => none
  | k + 1, x2, x3, x35, x217000, x217001, x218000, x218001 => if x35 = true then (some 0) else (spec_DotBytes.l0 k x2 x3 0 0 x217000 x217001 x218000 x218001)
def spec_DotBytes.l0 : Nat → List Int → List Int → Int → Int → Int → Int → Int → Int → Option (Int)
  | 0, _, _, _, _, _, _, _, _ => none
  | k + 1, x2, x3, x9, x10, x217000, x217001, x218000, x218001 => if x10 < (x2.length : Int) then (if 0 ≤ x10 then (if x10 < (x3.length : Int) then (spec_DotBytes.l0 k x2 x3 (wrap64 (x9 + (wrap64 ((wrap64 ((rd x2 x10) - x217001)) * (wrap64 ((rd x3 x10) - x218001)))))) (wrap64 (x10 + 1)) x217000 x217001 x218000 x218001) else (none)) else (none)) else (some x9)
end
def spec_DotBytes.f (k : Nat) (a0_0 : Int) (a0_1 : Int) (a1_0 : Int) (a1_1 : Int) (l2 : List Int) (l3 : List Int) : Option (Int) := (spec_ScaleOk.f a0_0 a0_1).bind fun t218 => (if t218 = true then ((spec_ScaleOk.f a1_0 a1_1).bind fun t219 => (if t219 = true then (if (l2.length : Int) = (l3.length : Int) then ((spec_l14Bytes.f k l2).bind fun t220 => (if t220 = true then ((spec_l14Bytes.f k l3).bind fun t221 => (spec_DotBytes.j0 k l2 l3 (!t221) a0_0 a0_1 a1_0 a1_1)) else (spec_DotBytes.j0 k l2 l3 true a0_0 a0_1 a1_0 a1_1))) else (spec_DotBytes.j0 k l2 l3 true a0_0 a0_1 a1_0 a1_1)) else (spec_DotBytes.j0 k l2 l3 true a0_0 a0_1 a1_0 a1_1))) else (spec_DotBytes.j0 k l2 l3 true a0_0 a0_1 a1_0 a1_1))
theorem spec_DotBytes.mono_l : ∀ k, (∀ y0 y1 y2 y3 y4 y5 y6, LeO (spec_DotBytes.j0 k y0 y1 y2 y3 y4 y5 y6) (spec_DotBytes.j0 (k + 1) y0 y1 y2 y3 y4 y5 y6)) ∧ (∀ y0 y1 y2 y3 y4 y5 y6 y7, LeO (spec_DotBytes.l0 k y0 y1 y2 y3 y4 y5 y6 y7) (spec_DotBytes.l0 (k + 1) y0 y1 y2 y3 y4 y5 y6 y7))
  | 0 => ⟨fun _ _ _ _ _ _ _ r h => by simp [spec_DotBytes.j0] at h, fun _ _ _ _ _ _ _ _ r h => by simp [spec_DotBytes.l0] at h⟩
  | k + 1 => by
    obtain ⟨ih0, ih1⟩ := spec_DotBytes.mono_l k
    refine ⟨?_, ?_⟩
    · intro y0 y1 y2 y3 y4 y5 y6
      unfold spec_DotBytes.j0
      repeat' first
      | (with_reducible exact ih0 _ _ _ _ _ _ _)
      | (with_reducible exact ih1 _ _ _ _ _ _ _ _)
      | (with_reducible exact spec_l14Bytes.mono _ _)
      | (with_reducible exact LeO.refl _)
      | (with_reducible exact LeO.none _)
      | (with_reducible refine LeO.ite ?_ ?_)
      | (with_reducible refine LeO.bind ?_ (fun _ => ?_))
      | exact ih0 _ _ _ _ _ _ _
      | exact ih1 _ _ _ _ _ _ _ _
      | exact spec_l14Bytes.mono _ _
      | exact LeO.none _
      | refine LeO.ite ?_ ?_
      | refine LeO.bind ?_ (fun _ => ?_)
    · intro y0 y1 y2 y3 y4 y5 y6 y7
      unfold spec_DotBytes.l0
      repeat' first
      | (with_reducible exact ih0 _ _ _ _ _ _ _)
      | (with_reducible exact ih1 _ _ _ _ _ _ _ _)
      | (with_reducible exact spec_l14Bytes.mono _ _)
      | (with_reducible exact LeO.refl _)
      | (with_reducible exact LeO.none _)
      | (with_reducible refine LeO.ite ?_ ?_)
      | (with_reducible refine LeO.bind ?_ (fun _ => ?_))
      | exact ih0 _ _ _ _ _ _ _
      | exact ih1 _ _ _ _ _ _ _ _
      | exact spec_l14Bytes.mono _ _
      | exact LeO.none _
      | refine LeO.ite ?_ ?_
      | refine LeO.bind ?_ (fun _ => ?_)
theorem spec_DotBytes.mono : ∀ a0 a1 a2 a3 a4 a5 k, LeO (spec_DotBytes.f k a0 a1 a2 a3 a4 a5) (spec_DotBytes.f (k + 1) a0 a1 a2 a3 a4 a5) := by
  intro a0 a1 a2 a3 a4 a5 k
  obtain ⟨ih0, ih1⟩ := spec_DotBytes.mono_l k
  unfold spec_DotBytes.f
  repeat' first
      | (with_reducible exact ih0 _ _ _ _ _ _ _)
      | (with_reducible exact ih1 _ _ _ _ _ _ _ _)
      | (with_reducible exact spec_l14Bytes.mono _ _)
      | (with_reducible exact LeO.refl _)
      | (with_reducible exact LeO.none _)
      | (with_reducible refine LeO.ite ?_ ?_)
      | (with_reducible refine LeO.bind ?_ (fun _ => ?_))
      | exact ih0 _ _ _ _ _ _ _
      | exact ih1 _ _ _ _ _ _ _ _
      | exact spec_l14Bytes.mono _ _
      | exact LeO.none _
      | refine LeO.ite ?_ ?_
      | refine LeO.bind ?_ (fun _ => ?_)
set_option maxHeartbeats 8000000 in
set_option maxRecDepth 100000 in
theorem spec_DotBytes.calls (k : Nat) (a0_0 : Int) (a0_1 : Int) (a1_0 : Int) (a1_1 : Int) (A2 : Option Addr) (c2 : Nat) (l2 : List Int) (A3 : Option Addr) (c3 : Nat) (l3 : List Int) (r : Int) (w : World) (hr2 : Kd.C (Kd.int .i64) w A2 l2.length l2) (hc2 : l2.length ≤ c2) (hr3 : Kd.C (Kd.int .i64) w A3 l3.length l3) (hc3 : l3.length ≤ c3) (h : spec_DotBytes.f k a0_0 a0_1 a1_0 a1_1 l2 l3 = some r) :
    Calls Try.prog 73 #[.agg #[.int .i64 a0_0, .int .i64 a0_1], .agg #[.int .i64 a1_0, .int .i64 a1_1], .slice A2 l2.length c2, .slice A3 l3.length c3] w fun e w' => e = .returned (.int .i64 r) ∧ Below w.heap.size w w' := by
  have hu45 := Try.underlying45
  have HR2 := zK hr2
  have HC2 := zK hc2
  clear hr2 hc2
  have HR3 := zK hr3
  have HC3 := zK hc3
  clear hr3 hc3
  have HB := zK (Below.refl w.heap.size w)
  have H : ((spec_ScaleOk.f a0_0 a0_1).bind fun t218 => (if t218 = true then ((spec_ScaleOk.f a1_0 a1_1).bind fun t219 => (if t219 = true then (if (l2.length : Int) = (l3.length : Int) then ((spec_l14Bytes.f k l2).bind fun t220 => (if t220 = true then ((spec_l14Bytes.f k l3).bind fun t221 => (spec_DotBytes.j0 k l2 l3 (!t221) a0_0 a0_1 a1_0 a1_1)) else (spec_DotBytes.j0 k l2 l3 true a0_0 a0_1 a1_0 a1_1))) else (spec_DotBytes.j0 k l2 l3 true a0_0 a0_1 a1_0 a1_1)) else (spec_DotBytes.j0 k l2 l3 true a0_0 a0_1 a1_0 a1_1))) else (spec_DotBytes.j0 k l2 l3 true a0_0 a0_1 a1_0 a1_1))) = some r := h
  clear h
  have HC5 := zK H
  clear H
  go_enter Try.func73, Try.ntmps73
  go_upto_region 1 with (first | ((with_reducible refine gate_dst (N := 4) rfl ?_); (try (refine gate_guard (by rfl) ?_; dsimp only)); refine box_event ?hg (N := 4) ?hd (cs := #[.int .i64 a0_0, .int .i64 a0_1]) (t := 45) ?hr ?_; (case hd => rfl); (case hg => rfl); (case hr => first | (go_simp; done) | (go_simp; rfl)); intro gb216 hg w6 hbox hb; have n0_ := zK (zp zB hb); have n1_ := zK (hbox); have n2_ := zK ((by rw [hg]; exact (zz zB) : w.heap.size ≤ gb216)); have n3_ := zK ((by rw [hg]; exact (zz zB) : w.heap.size ≤ gb216)); clear HB; have HB := n0_; have BK216 := n1_; have GW216 := n2_; have GE216 := n3_; clear n0_ n1_ n2_ n3_; clear hb hbox hg) | ((with_reducible refine gate_dst (N := 5) rfl ?_); (try (refine gate_guard (by rfl) ?_; dsimp only)); refine box_event ?hg (N := 5) ?hd (cs := #[.int .i64 a1_0, .int .i64 a1_1]) (t := 45) ?hr ?_; (case hd => rfl); (case hg => rfl); (case hr => first | (go_simp; done) | (go_simp; rfl)); intro gb217 hg w7 hbox hb; have n0_ := zK (zg (g := gb216) (o := .cells #[.int .i64 a0_0, .int .i64 a0_1] 45 (0, 0)) (by (with_reducible repeat (first | refine zn ?_ _ | refine zd ?_ | refine za ?_ _)); exact BK216.out) hb); have n1_ := zK (zp zB hb); have n2_ := zK (hbox); have n3_ := zK ((by rw [hg]; exact (zz zB) : w.heap.size ≤ gb217)); have n4_ := zK ((by rw [hg]; exact (zz zB) : w.heap.size ≤ gb217)); have n5_ := zK ((by rw [hg]; exact Nat.ne_of_lt (blk_lt (g := gb216) (o := .cells #[.int .i64 a0_0, .int .i64 a0_1] 45 (0, 0)) (by (with_reducible repeat (first | refine zn ?_ _ | refine zd ?_ | refine za ?_ _)); exact BK216.out)) : gb216 ≠ gb217)); have n6_ := zK ((by rw [hg]; exact Nat.ne_of_gt (blk_lt (g := gb216) (o := .cells #[.int .i64 a0_0, .int .i64 a0_1] 45 (0, 0)) (by (with_reducible repeat (first | refine zn ?_ _ | refine zd ?_ | refine za ?_ _)); exact BK216.out)) : gb217 ≠ gb216)); clear BK216; clear HB; have BK216 := n0_; have HB := n1_; have BK217 := n2_; have GW217 := n3_; have GE217 := n4_; have NB216_217 := n5_; have NB217_216 := n6_; clear n0_ n1_ n2_ n3_ n4_ n5_ n6_; clear hb hbox hg))
  repeat (go_quiet (first | ((with_reducible refine gate_dst (N := 4) rfl ?_); (try (refine gate_guard (by rfl) ?_; dsimp only)); refine box_event ?hg (N := 4) ?hd (cs := #[.int .i64 a0_0, .int .i64 a0_1]) (t := 45) ?hr ?_; (case hd => rfl); (case hg => rfl); (case hr => first | (go_simp; done) | (go_simp; rfl)); intro gb216 hg w6 hbox hb; have n0_ := zK (zp zB hb); have n1_ := zK (hbox); have n2_ := zK ((by rw [hg]; exact (zz zB) : w.heap.size ≤ gb216)); have n3_ := zK ((by rw [hg]; exact (zz zB) : w.heap.size ≤ gb216)); clear HB; have HB := n0_; have BK216 := n1_; have GW216 := n2_; have GE216 := n3_; clear n0_ n1_ n2_ n3_; clear hb hbox hg) | ((with_reducible refine gate_dst (N := 5) rfl ?_); (try (refine gate_guard (by rfl) ?_; dsimp only)); refine box_event ?hg (N := 5) ?hd (cs := #[.int .i64 a1_0, .int .i64 a1_1]) (t := 45) ?hr ?_; (case hd => rfl); (case hg => rfl); (case hr => first | (go_simp; done) | (go_simp; rfl)); intro gb217 hg w7 hbox hb; have n0_ := zK (zg (g := gb216) (o := .cells #[.int .i64 a0_0, .int .i64 a0_1] 45 (0, 0)) (by (with_reducible repeat (first | refine zn ?_ _ | refine zd ?_ | refine za ?_ _)); exact BK216.out) hb); have n1_ := zK (zp zB hb); have n2_ := zK (hbox); have n3_ := zK ((by rw [hg]; exact (zz zB) : w.heap.size ≤ gb217)); have n4_ := zK ((by rw [hg]; exact (zz zB) : w.heap.size ≤ gb217)); have n5_ := zK ((by rw [hg]; exact Nat.ne_of_lt (blk_lt (g := gb216) (o := .cells #[.int .i64 a0_0, .int .i64 a0_1] 45 (0, 0)) (by (with_reducible repeat (first | refine zn ?_ _ | refine zd ?_ | refine za ?_ _)); exact BK216.out)) : gb216 ≠ gb217)); have n6_ := zK ((by rw [hg]; exact Nat.ne_of_gt (blk_lt (g := gb216) (o := .cells #[.int .i64 a0_0, .int .i64 a0_1] 45 (0, 0)) (by (with_reducible repeat (first | refine zn ?_ _ | refine zd ?_ | refine za ?_ _)); exact BK216.out)) : gb217 ≠ gb216)); clear BK216; clear HB; have BK216 := n0_; have HB := n1_; have BK217 := n2_; have GW217 := n3_; have GE217 := n4_; have NB216_217 := n5_; have NB217_216 := n6_; clear n0_ n1_ n2_ n3_ n4_ n5_ n6_; clear hb hbox hg)); go_upto_region 1 with (first | ((with_reducible refine gate_dst (N := 4) rfl ?_); (try (refine gate_guard (by rfl) ?_; dsimp only)); refine box_event ?hg (N := 4) ?hd (cs := #[.int .i64 a0_0, .int .i64 a0_1]) (t := 45) ?hr ?_; (case hd => rfl); (case hg => rfl); (case hr => first | (go_simp; done) | (go_simp; rfl)); intro gb216 hg w6 hbox hb; have n0_ := zK (zp zB hb); have n1_ := zK (hbox); have n2_ := zK ((by rw [hg]; exact (zz zB) : w.heap.size ≤ gb216)); have n3_ := zK ((by rw [hg]; exact (zz zB) : w.heap.size ≤ gb216)); clear HB; have HB := n0_; have BK216 := n1_; have GW216 := n2_; have GE216 := n3_; clear n0_ n1_ n2_ n3_; clear hb hbox hg) | ((with_reducible refine gate_dst (N := 5) rfl ?_); (try (refine gate_guard (by rfl) ?_; dsimp only)); refine box_event ?hg (N := 5) ?hd (cs := #[.int .i64 a1_0, .int .i64 a1_1]) (t := 45) ?hr ?_; (case hd => rfl); (case hg => rfl); (case hr => first | (go_simp; done) | (go_simp; rfl)); intro gb217 hg w7 hbox hb; have n0_ := zK (zg (g := gb216) (o := .cells #[.int .i64 a0_0, .int .i64 a0_1] 45 (0, 0)) (by (with_reducible repeat (first | refine zn ?_ _ | refine zd ?_ | refine za ?_ _)); exact BK216.out) hb); have n1_ := zK (zp zB hb); have n2_ := zK (hbox); have n3_ := zK ((by rw [hg]; exact (zz zB) : w.heap.size ≤ gb217)); have n4_ := zK ((by rw [hg]; exact (zz zB) : w.heap.size ≤ gb217)); have n5_ := zK ((by rw [hg]; exact Nat.ne_of_lt (blk_lt (g := gb216) (o := .cells #[.int .i64 a0_0, .int .i64 a0_1] 45 (0, 0)) (by (with_reducible repeat (first | refine zn ?_ _ | refine zd ?_ | refine za ?_ _)); exact BK216.out)) : gb216 ≠ gb217)); have n6_ := zK ((by rw [hg]; exact Nat.ne_of_gt (blk_lt (g := gb216) (o := .cells #[.int .i64 a0_0, .int .i64 a0_1] 45 (0, 0)) (by (with_reducible repeat (first | refine zn ?_ _ | refine zd ?_ | refine za ?_ _)); exact BK216.out)) : gb217 ≠ gb216)); clear BK216; clear HB; have BK216 := n0_; have HB := n1_; have BK217 := n2_; have GW217 := n3_; have GE217 := n4_; have NB216_217 := n5_; have NB217_216 := n6_; clear n0_ n1_ n2_ n3_ n4_ n5_ n6_; clear hb hbox hg)))
  (try simp only [Act.put, List.setIfInBounds_toArray, List.set_cons_zero, List.set_cons_succ])
  go_cut [35] (fun v35 wc => ∃ (kq : Nat) (x35_4 : Bool), v35 = .bool x35_4 ∧ Aside0 (spec_DotBytes.j0 kq l2 l3 x35_4 a0_0 a0_1 a1_0 a1_1 = some r) ∧ Aside0 (kq ≤ k) ∧ Aside0 (wc.heap[gb216]? = some (.cells #[.int .i64 a0_0, .int .i64 a0_1] 45 (0, 0))) ∧ Aside0 (wc.heap[gb217]? = some (.cells #[.int .i64 a1_0, .int .i64 a1_1] 45 (0, 0))) ∧ Aside0 (Below w.heap.size w wc))
  case first =>
   have H := HC5.out
   clear HC5
   replace H := Option.bind_eq_some_iff.mp H
   obtain ⟨t218, A80, H⟩ := H
   replace H : (if t218 = true then ((spec_ScaleOk.f a1_0 a1_1).bind fun t219 => (if t219 = true then (if (l2.length : Int) = (l3.length : Int) then ((spec_l14Bytes.f k l2).bind fun t220 => (if t220 = true then ((spec_l14Bytes.f k l3).bind fun t221 => (spec_DotBytes.j0 k l2 l3 (!t221) a0_0 a0_1 a1_0 a1_1)) else (spec_DotBytes.j0 k l2 l3 true a0_0 a0_1 a1_0 a1_1))) else (spec_DotBytes.j0 k l2 l3 true a0_0 a0_1 a1_0 a1_1)) else (spec_DotBytes.j0 k l2 l3 true a0_0 a0_1 a1_0 a1_1))) else (spec_DotBytes.j0 k l2 l3 true a0_0 a0_1 a1_0 a1_1)) = some r := H
   have A8 := zK A80
   clear A80
   by_cases c9 : t218 = true
   rotate_left
   · replace c9 := Bool.eq_false_iff.mpr c9
     subst c9
     have H1 : (spec_DotBytes.j0 k l2 l3 true a0_0 a0_1 a1_0 a1_1) = some r := by rw [if_neg (show ¬ (false = true) by decide)] at H; exact H
     clear H
     have H := H1
     clear H1
     have H' := zK H
     clear H
     have hnb36 := NB216_217.out
     have hnc36 := NB217_216.out
     have hcz37_0 : w7.cell? ⟨gb216, 0, none⟩ = some (.int .i64 a0_0) := (zc BK216.out 0).trans rfl
     have hcz37_1 : w7.cell? ⟨gb216, 1, none⟩ = some (.int .i64 a0_1) := (zc BK216.out 1).trans rfl
     have hfz37_0 := zf BK216.out 0
     have hfz37_1 := zf BK216.out 1
     go_wp2_with (first | (go_at_call 120; (with_reducible refine (spec_ScaleOk.calls a0_0 a0_1 false _ A8.out).mono ?_); rintro e w38 ⟨rfl, hb⟩; have n0_ := zK (zg (g := gb216) (o := .cells #[.int .i64 a0_0, .int .i64 a0_1] 45 (0, 0)) (by (with_reducible repeat (first | refine zn ?_ _ | refine zd ?_ | refine za ?_ _)); exact BK216.out) hb); have n1_ := zK (zg (g := gb217) (o := .cells #[.int .i64 a1_0, .int .i64 a1_1] 45 (0, 0)) (by (with_reducible repeat (first | refine zn ?_ _ | refine zd ?_ | refine za ?_ _)); exact BK217.out) hb); have n2_ := zK (zp zB hb); clear BK216; clear BK217; clear HB; have BK216 := n0_; have BK217 := n1_; have HB := n2_; clear n0_ n1_ n2_; (try clear hb); (try clear hb2); (try clear hk); (try clear hi)))
     repeat (go_quiet (first | (go_at_call 120; (with_reducible refine (spec_ScaleOk.calls a0_0 a0_1 false _ A8.out).mono ?_); rintro e w38 ⟨rfl, hb⟩; have n0_ := zK (zg (g := gb216) (o := .cells #[.int .i64 a0_0, .int .i64 a0_1] 45 (0, 0)) (by (with_reducible repeat (first | refine zn ?_ _ | refine zd ?_ | refine za ?_ _)); exact BK216.out) hb); have n1_ := zK (zg (g := gb217) (o := .cells #[.int .i64 a1_0, .int .i64 a1_1] 45 (0, 0)) (by (with_reducible repeat (first | refine zn ?_ _ | refine zd ?_ | refine za ?_ _)); exact BK217.out) hb); have n2_ := zK (zp zB hb); clear BK216; clear BK217; clear HB; have BK216 := n0_; have BK217 := n1_; have HB := n2_; clear n0_ n1_ n2_; (try clear hb); (try clear hb2); (try clear hk); (try clear hi))); try go_wp2_with (first | (go_at_call 120; (with_reducible refine (spec_ScaleOk.calls a0_0 a0_1 false _ A8.out).mono ?_); rintro e w38 ⟨rfl, hb⟩; have n0_ := zK (zg (g := gb216) (o := .cells #[.int .i64 a0_0, .int .i64 a0_1] 45 (0, 0)) (by (with_reducible repeat (first | refine zn ?_ _ | refine zd ?_ | refine za ?_ _)); exact BK216.out) hb); have n1_ := zK (zg (g := gb217) (o := .cells #[.int .i64 a1_0, .int .i64 a1_1] 45 (0, 0)) (by (with_reducible repeat (first | refine zn ?_ _ | refine zd ?_ | refine za ?_ _)); exact BK217.out) hb); have n2_ := zK (zp zB hb); clear BK216; clear BK217; clear HB; have BK216 := n0_; have BK217 := n1_; have HB := n2_; clear n0_ n1_ n2_; (try clear hb); (try clear hb2); (try clear hk); (try clear hi))))
     go_meet
     case rel => exact ⟨_, (true), zR, H', ⟨by first | omega | exact Nat.le_refl _⟩, ⟨by (with_reducible repeat (first | refine zn ?_ _ | refine zd ?_ | refine za ?_ _)); exact BK216.out⟩, ⟨by (with_reducible repeat (first | refine zn ?_ _ | refine zd ?_ | refine za ?_ _)); exact BK217.out⟩, ⟨zB⟩⟩
   subst c9
   have H1 : ((spec_ScaleOk.f a1_0 a1_1).bind fun t219 => (if t219 = true then (if (l2.length : Int) = (l3.length : Int) then ((spec_l14Bytes.f k l2).bind fun t220 => (if t220 = true then ((spec_l14Bytes.f k l3).bind fun t221 => (spec_DotBytes.j0 k l2 l3 (!t221) a0_0 a0_1 a1_0 a1_1)) else (spec_DotBytes.j0 k l2 l3 true a0_0 a0_1 a1_0 a1_1))) else (spec_DotBytes.j0 k l2 l3 true a0_0 a0_1 a1_0 a1_1)) else (spec_DotBytes.j0 k l2 l3 true a0_0 a0_1 a1_0 a1_1))) = some r := by rw [if_pos rfl] at H; exact H
   clear H
   have H := H1
   clear H1
   replace H := Option.bind_eq_some_iff.mp H
   obtain ⟨t219, A100, H⟩ := H
   replace H : (if t219 = true then (if (l2.length : Int) = (l3.length : Int) then ((spec_l14Bytes.f k l2).bind fun t220 => (if t220 = true then ((spec_l14Bytes.f k l3).bind fun t221 => (spec_DotBytes.j0 k l2 l3 (!t221) a0_0 a0_1 a1_0 a1_1)) else (spec_DotBytes.j0 k l2 l3 true a0_0 a0_1 a1_0 a1_1))) else (spec_DotBytes.j0 k l2 l3 true a0_0 a0_1 a1_0 a1_1)) else (spec_DotBytes.j0 k l2 l3 true a0_0 a0_1 a1_0 a1_1)) = some r := H
   have A10 := zK A100
   clear A100
   by_cases c11 : t219 = true
   rotate_left
   · replace c11 := Bool.eq_false_iff.mpr c11
     subst c11
     have H1 : (spec_DotBytes.j0 k l2 l3 true a0_0 a0_1 a1_0 a1_1) = some r := by rw [if_neg (show ¬ (false = true) by decide)] at H; exact H
     clear H
     have H := H1
     clear H1
     have H' := zK H
     clear H
     have hnb31 := NB216_217.out
     have hnc31 := NB217_216.out
     have hcz32_0 : w7.cell? ⟨gb216, 0, none⟩ = some (.int .i64 a0_0) := (zc BK216.out 0).trans rfl
     have hcz32_1 : w7.cell? ⟨gb216, 1, none⟩ = some (.int .i64 a0_1) := (zc BK216.out 1).trans rfl
     have hfz32_0 := zf BK216.out 0
     have hfz32_1 := zf BK216.out 1
     go_wp2_with (first | (go_at_call 120; (with_reducible refine (spec_ScaleOk.calls a0_0 a0_1 true _ A8.out).mono ?_); rintro e w33 ⟨rfl, hb⟩; have n0_ := zK (zg (g := gb216) (o := .cells #[.int .i64 a0_0, .int .i64 a0_1] 45 (0, 0)) (by (with_reducible repeat (first | refine zn ?_ _ | refine zd ?_ | refine za ?_ _)); exact BK216.out) hb); have n1_ := zK (zg (g := gb217) (o := .cells #[.int .i64 a1_0, .int .i64 a1_1] 45 (0, 0)) (by (with_reducible repeat (first | refine zn ?_ _ | refine zd ?_ | refine za ?_ _)); exact BK217.out) hb); have n2_ := zK (zp zB hb); clear BK216; clear BK217; clear HB; have BK216 := n0_; have BK217 := n1_; have HB := n2_; clear n0_ n1_ n2_; (try clear hb); (try clear hb2); (try clear hk); (try clear hi); have hcz34_0 : w33.cell? ⟨gb217, 0, none⟩ = some (.int .i64 a1_0) := (zc BK217.out 0).trans rfl; have hcz34_1 : w33.cell? ⟨gb217, 1, none⟩ = some (.int .i64 a1_1) := (zc BK217.out 1).trans rfl; have hfz34_0 := zf BK217.out 0; have hfz34_1 := zf BK217.out 1) | (go_at_call 120; (with_reducible refine (spec_ScaleOk.calls a1_0 a1_1 false _ A10.out).mono ?_); rintro e w35 ⟨rfl, hb⟩; have n0_ := zK (zg (g := gb216) (o := .cells #[.int .i64 a0_0, .int .i64 a0_1] 45 (0, 0)) (by (with_reducible repeat (first | refine zn ?_ _ | refine zd ?_ | refine za ?_ _)); exact BK216.out) hb); have n1_ := zK (zg (g := gb217) (o := .cells #[.int .i64 a1_0, .int .i64 a1_1] 45 (0, 0)) (by (with_reducible repeat (first | refine zn ?_ _ | refine zd ?_ | refine za ?_ _)); exact BK217.out) hb); have n2_ := zK (zp zB hb); clear BK216; clear BK217; clear HB; have BK216 := n0_; have BK217 := n1_; have HB := n2_; clear n0_ n1_ n2_; (try clear hb); (try clear hb2); (try clear hk); (try clear hi)))
     repeat (go_quiet (first | (go_at_call 120; (with_reducible refine (spec_ScaleOk.calls a0_0 a0_1 true _ A8.out).mono ?_); rintro e w33 ⟨rfl, hb⟩; have n0_ := zK (zg (g := gb216) (o := .cells #[.int .i64 a0_0, .int .i64 a0_1] 45 (0, 0)) (by (with_reducible repeat (first | refine zn ?_ _ | refine zd ?_ | refine za ?_ _)); exact BK216.out) hb); have n1_ := zK (zg (g := gb217) (o := .cells #[.int .i64 a1_0, .int .i64 a1_1] 45 (0, 0)) (by (with_reducible repeat (first | refine zn ?_ _ | refine zd ?_ | refine za ?_ _)); exact BK217.out) hb); have n2_ := zK (zp zB hb); clear BK216; clear BK217; clear HB; have BK216 := n0_; have BK217 := n1_; have HB := n2_; clear n0_ n1_ n2_; (try clear hb); (try clear hb2); (try clear hk); (try clear hi); have hcz34_0 : w33.cell? ⟨gb217, 0, none⟩ = some (.int .i64 a1_0) := (zc BK217.out 0).trans rfl; have hcz34_1 : w33.cell? ⟨gb217, 1, none⟩ = some (.int .i64 a1_1) := (zc BK217.out 1).trans rfl; have hfz34_0 := zf BK217.out 0; have hfz34_1 := zf BK217.out 1) | (go_at_call 120; (with_reducible refine (spec_ScaleOk.calls a1_0 a1_1 false _ A10.out).mono ?_); rintro e w35 ⟨rfl, hb⟩; have n0_ := zK (zg (g := gb216) (o := .cells #[.int .i64 a0_0, .int .i64 a0_1] 45 (0, 0)) (by (with_reducible repeat (first | refine zn ?_ _ | refine zd ?_ | refine za ?_ _)); exact BK216.out) hb); have n1_ := zK (zg (g := gb217) (o := .cells #[.int .i64 a1_0, .int .i64 a1_1] 45 (0, 0)) (by (with_reducible repeat (first | refine zn ?_ _ | refine zd ?_ | refine za ?_ _)); exact BK217.out) hb); have n2_ := zK (zp zB hb); clear BK216; clear BK217; clear HB; have BK216 := n0_; have BK217 := n1_; have HB := n2_; clear n0_ n1_ n2_; (try clear hb); (try clear hb2); (try clear hk); (try clear hi))); try go_wp2_with (first | (go_at_call 120; (with_reducible refine (spec_ScaleOk.calls a0_0 a0_1 true _ A8.out).mono ?_); rintro e w33 ⟨rfl, hb⟩; have n0_ := zK (zg (g := gb216) (o := .cells #[.int .i64 a0_0, .int .i64 a0_1] 45 (0, 0)) (by (with_reducible repeat (first | refine zn ?_ _ | refine zd ?_ | refine za ?_ _)); exact BK216.out) hb); have n1_ := zK (zg (g := gb217) (o := .cells #[.int .i64 a1_0, .int .i64 a1_1] 45 (0, 0)) (by (with_reducible repeat (first | refine zn ?_ _ | refine zd ?_ | refine za ?_ _)); exact BK217.out) hb); have n2_ := zK (zp zB hb); clear BK216; clear BK217; clear HB; have BK216 := n0_; have BK217 := n1_; have HB := n2_; clear n0_ n1_ n2_; (try clear hb); (try clear hb2); (try clear hk); (try clear hi); have hcz34_0 : w33.cell? ⟨gb217, 0, none⟩ = some (.int .i64 a1_0) := (zc BK217.out 0).trans rfl; have hcz34_1 : w33.cell? ⟨gb217, 1, none⟩ = some (.int .i64 a1_1) := (zc BK217.out 1).trans rfl; have hfz34_0 := zf BK217.out 0; have hfz34_1 := zf BK217.out 1) | (go_at_call 120; (with_reducible refine (spec_ScaleOk.calls a1_0 a1_1 false _ A10.out).mono ?_); rintro e w35 ⟨rfl, hb⟩; have n0_ := zK (zg (g := gb216) (o := .cells #[.int .i64 a0_0, .int .i64 a0_1] 45 (0, 0)) (by (with_reducible repeat (first | refine zn ?_ _ | refine zd ?_ | refine za ?_ _)); exact BK216.out) hb); have n1_ := zK (zg (g := gb217) (o := .cells #[.int .i64 a1_0, .int .i64 a1_1] 45 (0, 0)) (by (with_reducible repeat (first | refine zn ?_ _ | refine zd ?_ | refine za ?_ _)); exact BK217.out) hb); have n2_ := zK (zp zB hb); clear BK216; clear BK217; clear HB; have BK216 := n0_; have BK217 := n1_; have HB := n2_; clear n0_ n1_ n2_; (try clear hb); (try clear hb2); (try clear hk); (try clear hi))))
     go_meet
     case rel => exact ⟨_, (true), zR, H', ⟨by first | omega | exact Nat.le_refl _⟩, ⟨by (with_reducible repeat (first | refine zn ?_ _ | refine zd ?_ | refine za ?_ _)); exact BK216.out⟩, ⟨by (with_reducible repeat (first | refine zn ?_ _ | refine zd ?_ | refine za ?_ _)); exact BK217.out⟩, ⟨zB⟩⟩
   subst c11
   have H1 : (if (l2.length : Int) = (l3.length : Int) then ((spec_l14Bytes.f k l2).bind fun t220 => (if t220 = true then ((spec_l14Bytes.f k l3).bind fun t221 => (spec_DotBytes.j0 k l2 l3 (!t221) a0_0 a0_1 a1_0 a1_1)) else (spec_DotBytes.j0 k l2 l3 true a0_0 a0_1 a1_0 a1_1))) else (spec_DotBytes.j0 k l2 l3 true a0_0 a0_1 a1_0 a1_1)) = some r := by rw [if_pos rfl] at H; exact H
   clear H
   have H := H1
   clear H1
   by_cases c12 : (l2.length : Int) = (l3.length : Int)
   rotate_left
   · rw [if_neg c12] at H
     have c12b0 : ((l2.length : Int) == (l3.length : Int)) = false := beq_eq_false_iff_ne.mpr c12
     have c12b1 : ((l2.length : Int) != (l3.length : Int)) = true := bne_iff_ne.mpr c12
     have c12b2 : (l2.length == l3.length) = false := by first | simpa using c12 | (simp at c12 ⊢; omega)
     (first | rw [c12b0] | (simp only [i64_w, i32_w]; rw [c12b0]) | skip)
     have H' := zK H
     clear H
     have hnb26 := NB216_217.out
     have hnc26 := NB217_216.out
     have hcz27_0 : w7.cell? ⟨gb216, 0, none⟩ = some (.int .i64 a0_0) := (zc BK216.out 0).trans rfl
     have hcz27_1 : w7.cell? ⟨gb216, 1, none⟩ = some (.int .i64 a0_1) := (zc BK216.out 1).trans rfl
     have hfz27_0 := zf BK216.out 0
     have hfz27_1 := zf BK216.out 1
     go_wp2_with (first | (go_at_call 120; (with_reducible refine (spec_ScaleOk.calls a0_0 a0_1 true _ A8.out).mono ?_); rintro e w28 ⟨rfl, hb⟩; have n0_ := zK (zg (g := gb216) (o := .cells #[.int .i64 a0_0, .int .i64 a0_1] 45 (0, 0)) (by (with_reducible repeat (first | refine zn ?_ _ | refine zd ?_ | refine za ?_ _)); exact BK216.out) hb); have n1_ := zK (zg (g := gb217) (o := .cells #[.int .i64 a1_0, .int .i64 a1_1] 45 (0, 0)) (by (with_reducible repeat (first | refine zn ?_ _ | refine zd ?_ | refine za ?_ _)); exact BK217.out) hb); have n2_ := zK (zp zB hb); clear BK216; clear BK217; clear HB; have BK216 := n0_; have BK217 := n1_; have HB := n2_; clear n0_ n1_ n2_; (try clear hb); (try clear hb2); (try clear hk); (try clear hi); have hcz29_0 : w28.cell? ⟨gb217, 0, none⟩ = some (.int .i64 a1_0) := (zc BK217.out 0).trans rfl; have hcz29_1 : w28.cell? ⟨gb217, 1, none⟩ = some (.int .i64 a1_1) := (zc BK217.out 1).trans rfl; have hfz29_0 := zf BK217.out 0; have hfz29_1 := zf BK217.out 1) | (go_at_call 120; (with_reducible refine (spec_ScaleOk.calls a1_0 a1_1 true _ A10.out).mono ?_); rintro e w30 ⟨rfl, hb⟩; have n0_ := zK (zg (g := gb216) (o := .cells #[.int .i64 a0_0, .int .i64 a0_1] 45 (0, 0)) (by (with_reducible repeat (first | refine zn ?_ _ | refine zd ?_ | refine za ?_ _)); exact BK216.out) hb); have n1_ := zK (zg (g := gb217) (o := .cells #[.int .i64 a1_0, .int .i64 a1_1] 45 (0, 0)) (by (with_reducible repeat (first | refine zn ?_ _ | refine zd ?_ | refine za ?_ _)); exact BK217.out) hb); have n2_ := zK (zp zB hb); clear BK216; clear BK217; clear HB; have BK216 := n0_; have BK217 := n1_; have HB := n2_; clear n0_ n1_ n2_; (try clear hb); (try clear hb2); (try clear hk); (try clear hi)))
     repeat (go_quiet (first | (go_at_call 120; (with_reducible refine (spec_ScaleOk.calls a0_0 a0_1 true _ A8.out).mono ?_); rintro e w28 ⟨rfl, hb⟩; have n0_ := zK (zg (g := gb216) (o := .cells #[.int .i64 a0_0, .int .i64 a0_1] 45 (0, 0)) (by (with_reducible repeat (first | refine zn ?_ _ | refine zd ?_ | refine za ?_ _)); exact BK216.out) hb); have n1_ := zK (zg (g := gb217) (o := .cells #[.int .i64 a1_0, .int .i64 a1_1] 45 (0, 0)) (by (with_reducible repeat (first | refine zn ?_ _ | refine zd ?_ | refine za ?_ _)); exact BK217.out) hb); have n2_ := zK (zp zB hb); clear BK216; clear BK217; clear HB; have BK216 := n0_; have BK217 := n1_; have HB := n2_; clear n0_ n1_ n2_; (try clear hb); (try clear hb2); (try clear hk); (try clear hi); have hcz29_0 : w28.cell? ⟨gb217, 0, none⟩ = some (.int .i64 a1_0) := (zc BK217.out 0).trans rfl; have hcz29_1 : w28.cell? ⟨gb217, 1, none⟩ = some (.int .i64 a1_1) := (zc BK217.out 1).trans rfl; have hfz29_0 := zf BK217.out 0; have hfz29_1 := zf BK217.out 1) | (go_at_call 120; (with_reducible refine (spec_ScaleOk.calls a1_0 a1_1 true _ A10.out).mono ?_); rintro e w30 ⟨rfl, hb⟩; have n0_ := zK (zg (g := gb216) (o := .cells #[.int .i64 a0_0, .int .i64 a0_1] 45 (0, 0)) (by (with_reducible repeat (first | refine zn ?_ _ | refine zd ?_ | refine za ?_ _)); exact BK216.out) hb); have n1_ := zK (zg (g := gb217) (o := .cells #[.int .i64 a1_0, .int .i64 a1_1] 45 (0, 0)) (by (with_reducible repeat (first | refine zn ?_ _ | refine zd ?_ | refine za ?_ _)); exact BK217.out) hb); have n2_ := zK (zp zB hb); clear BK216; clear BK217; clear HB; have BK216 := n0_; have BK217 := n1_; have HB := n2_; clear n0_ n1_ n2_; (try clear hb); (try clear hb2); (try clear hk); (try clear hi))); try go_wp2_with (first | (go_at_call 120; (with_reducible refine (spec_ScaleOk.calls a0_0 a0_1 true _ A8.out).mono ?_); rintro e w28 ⟨rfl, hb⟩; have n0_ := zK (zg (g := gb216) (o := .cells #[.int .i64 a0_0, .int .i64 a0_1] 45 (0, 0)) (by (with_reducible repeat (first | refine zn ?_ _ | refine zd ?_ | refine za ?_ _)); exact BK216.out) hb); have n1_ := zK (zg (g := gb217) (o := .cells #[.int .i64 a1_0, .int .i64 a1_1] 45 (0, 0)) (by (with_reducible repeat (first | refine zn ?_ _ | refine zd ?_ | refine za ?_ _)); exact BK217.out) hb); have n2_ := zK (zp zB hb); clear BK216; clear BK217; clear HB; have BK216 := n0_; have BK217 := n1_; have HB := n2_; clear n0_ n1_ n2_; (try clear hb); (try clear hb2); (try clear hk); (try clear hi); have hcz29_0 : w28.cell? ⟨gb217, 0, none⟩ = some (.int .i64 a1_0) := (zc BK217.out 0).trans rfl; have hcz29_1 : w28.cell? ⟨gb217, 1, none⟩ = some (.int .i64 a1_1) := (zc BK217.out 1).trans rfl; have hfz29_0 := zf BK217.out 0; have hfz29_1 := zf BK217.out 1) | (go_at_call 120; (with_reducible refine (spec_ScaleOk.calls a1_0 a1_1 true _ A10.out).mono ?_); rintro e w30 ⟨rfl, hb⟩; have n0_ := zK (zg (g := gb216) (o := .cells #[.int .i64 a0_0, .int .i64 a0_1] 45 (0, 0)) (by (with_reducible repeat (first | refine zn ?_ _ | refine zd ?_ | refine za ?_ _)); exact BK216.out) hb); have n1_ := zK (zg (g := gb217) (o := .cells #[.int .i64 a1_0, .int .i64 a1_1] 45 (0, 0)) (by (with_reducible repeat (first | refine zn ?_ _ | refine zd ?_ | refine za ?_ _)); exact BK217.out) hb); have n2_ := zK (zp zB hb); clear BK216; clear BK217; clear HB; have BK216 := n0_; have BK217 := n1_; have HB := n2_; clear n0_ n1_ n2_; (try clear hb); (try clear hb2); (try clear hk); (try clear hi))))
     go_meet
     case rel => exact ⟨_, (true), zR, H', ⟨by first | omega | exact Nat.le_refl _⟩, ⟨by (with_reducible repeat (first | refine zn ?_ _ | refine zd ?_ | refine za ?_ _)); exact BK216.out⟩, ⟨by (with_reducible repeat (first | refine zn ?_ _ | refine zd ?_ | refine za ?_ _)); exact BK217.out⟩, ⟨zB⟩⟩
   rw [if_pos c12] at H
   have c12b0 : ((l2.length : Int) == (l3.length : Int)) = true := beq_iff_eq.mpr c12
   have c12b1 : ((l2.length : Int) != (l3.length : Int)) = false := bne_eq_false_iff_eq.mpr c12
   have c12b2 : (l2.length == l3.length) = true := by first | simpa using c12 | (simp at c12 ⊢; omega)
   clear c12
   (first | rw [c12b0] | (simp only [i64_w, i32_w]; rw [c12b0]) | skip)
   replace H := Option.bind_eq_some_iff.mp H
   obtain ⟨t220, A130, H⟩ := H
   replace H : (if t220 = true then ((spec_l14Bytes.f k l3).bind fun t221 => (spec_DotBytes.j0 k l2 l3 (!t221) a0_0 a0_1 a1_0 a1_1)) else (spec_DotBytes.j0 k l2 l3 true a0_0 a0_1 a1_0 a1_1)) = some r := H
   have A13 := zK A130
   clear A130
   by_cases c14 : t220 = true
   rotate_left
   · replace c14 := Bool.eq_false_iff.mpr c14
     subst c14
     have H1 : (spec_DotBytes.j0 k l2 l3 true a0_0 a0_1 a1_0 a1_1) = some r := by rw [if_neg (show ¬ (false = true) by decide)] at H; exact H
     clear H
     have H := H1
     clear H1
     have H' := zK H
     clear H
     have hnb21 := NB216_217.out
     have hnc21 := NB217_216.out
     have hcz22_0 : w7.cell? ⟨gb216, 0, none⟩ = some (.int .i64 a0_0) := (zc BK216.out 0).trans rfl
     have hcz22_1 : w7.cell? ⟨gb216, 1, none⟩ = some (.int .i64 a0_1) := (zc BK216.out 1).trans rfl
     have hfz22_0 := zf BK216.out 0
     have hfz22_1 := zf BK216.out 1
     go_wp2_with (first | (go_at_call 120; (with_reducible refine (spec_ScaleOk.calls a0_0 a0_1 true _ A8.out).mono ?_); rintro e w23 ⟨rfl, hb⟩; have n0_ := zK (zg (g := gb216) (o := .cells #[.int .i64 a0_0, .int .i64 a0_1] 45 (0, 0)) (by (with_reducible repeat (first | refine zn ?_ _ | refine zd ?_ | refine za ?_ _)); exact BK216.out) hb); have n1_ := zK (zg (g := gb217) (o := .cells #[.int .i64 a1_0, .int .i64 a1_1] 45 (0, 0)) (by (with_reducible repeat (first | refine zn ?_ _ | refine zd ?_ | refine za ?_ _)); exact BK217.out) hb); have n2_ := zK (zp zB hb); clear BK216; clear BK217; clear HB; have BK216 := n0_; have BK217 := n1_; have HB := n2_; clear n0_ n1_ n2_; (try clear hb); (try clear hb2); (try clear hk); (try clear hi); have hcz24_0 : w23.cell? ⟨gb217, 0, none⟩ = some (.int .i64 a1_0) := (zc BK217.out 0).trans rfl; have hcz24_1 : w23.cell? ⟨gb217, 1, none⟩ = some (.int .i64 a1_1) := (zc BK217.out 1).trans rfl; have hfz24_0 := zf BK217.out 0; have hfz24_1 := zf BK217.out 1) | (go_at_call 120; (with_reducible refine (spec_ScaleOk.calls a1_0 a1_1 true _ A10.out).mono ?_); rintro e w25 ⟨rfl, hb⟩; have n0_ := zK (zg (g := gb216) (o := .cells #[.int .i64 a0_0, .int .i64 a0_1] 45 (0, 0)) (by (with_reducible repeat (first | refine zn ?_ _ | refine zd ?_ | refine za ?_ _)); exact BK216.out) hb); have n1_ := zK (zg (g := gb217) (o := .cells #[.int .i64 a1_0, .int .i64 a1_1] 45 (0, 0)) (by (with_reducible repeat (first | refine zn ?_ _ | refine zd ?_ | refine za ?_ _)); exact BK217.out) hb); have n2_ := zK (zp zB hb); clear BK216; clear BK217; clear HB; have BK216 := n0_; have BK217 := n1_; have HB := n2_; clear n0_ n1_ n2_; (try clear hb); (try clear hb2); (try clear hk); (try clear hi)) | (go_at_call 72; (with_reducible refine (spec_l14Bytes.calls k _ _ l2 false _ ?side1 ?side2 A13.out).mono ?_); (case side1 => repeat (first | exact (Kd.C_below HR2.out HB.out) | (with_reducible refine Kd.C_alloc ?_ _) | (with_reducible refine Kd.C_drewN ?_ _) | (with_reducible refine Kd.C_drew ?_))); (case side2 => exact HC2.out); rintro e w' ⟨rfl, ⟨nd, rfl⟩⟩; (try first | exact ⟨rfl, _, World.drewN_drewN _ _ _⟩ | exact ⟨rfl, _, Eq.trans (World.drewN_drewN _ _ _) (congrArg (World.drewN _) (Nat.add_assoc _ _ _))⟩)))
     repeat (go_quiet (first | (go_at_call 120; (with_reducible refine (spec_ScaleOk.calls a0_0 a0_1 true _ A8.out).mono ?_); rintro e w23 ⟨rfl, hb⟩; have n0_ := zK (zg (g := gb216) (o := .cells #[.int .i64 a0_0, .int .i64 a0_1] 45 (0, 0)) (by (with_reducible repeat (first | refine zn ?_ _ | refine zd ?_ | refine za ?_ _)); exact BK216.out) hb); have n1_ := zK (zg (g := gb217) (o := .cells #[.int .i64 a1_0, .int .i64 a1_1] 45 (0, 0)) (by (with_reducible repeat (first | refine zn ?_ _ | refine zd ?_ | refine za ?_ _)); exact BK217.out) hb); have n2_ := zK (zp zB hb); clear BK216; clear BK217; clear HB; have BK216 := n0_; have BK217 := n1_; have HB := n2_; clear n0_ n1_ n2_; (try clear hb); (try clear hb2); (try clear hk); (try clear hi); have hcz24_0 : w23.cell? ⟨gb217, 0, none⟩ = some (.int .i64 a1_0) := (zc BK217.out 0).trans rfl; have hcz24_1 : w23.cell? ⟨gb217, 1, none⟩ = some (.int .i64 a1_1) := (zc BK217.out 1).trans rfl; have hfz24_0 := zf BK217.out 0; have hfz24_1 := zf BK217.out 1) | (go_at_call 120; (with_reducible refine (spec_ScaleOk.calls a1_0 a1_1 true _ A10.out).mono ?_); rintro e w25 ⟨rfl, hb⟩; have n0_ := zK (zg (g := gb216) (o := .cells #[.int .i64 a0_0, .int .i64 a0_1] 45 (0, 0)) (by (with_reducible repeat (first | refine zn ?_ _ | refine zd ?_ | refine za ?_ _)); exact BK216.out) hb); have n1_ := zK (zg (g := gb217) (o := .cells #[.int .i64 a1_0, .int .i64 a1_1] 45 (0, 0)) (by (with_reducible repeat (first | refine zn ?_ _ | refine zd ?_ | refine za ?_ _)); exact BK217.out) hb); have n2_ := zK (zp zB hb); clear BK216; clear BK217; clear HB; have BK216 := n0_; have BK217 := n1_; have HB := n2_; clear n0_ n1_ n2_; (try clear hb); (try clear hb2); (try clear hk); (try clear hi)) | (go_at_call 72; (with_reducible refine (spec_l14Bytes.calls k _ _ l2 false _ ?side1 ?side2 A13.out).mono ?_); (case side1 => repeat (first | exact (Kd.C_below HR2.out HB.out) | (with_reducible refine Kd.C_alloc ?_ _) | (with_reducible refine Kd.C_drewN ?_ _) | (with_reducible refine Kd.C_drew ?_))); (case side2 => exact HC2.out); rintro e w' ⟨rfl, ⟨nd, rfl⟩⟩; (try first | exact ⟨rfl, _, World.drewN_drewN _ _ _⟩ | exact ⟨rfl, _, Eq.trans (World.drewN_drewN _ _ _) (congrArg (World.drewN _) (Nat.add_assoc _ _ _))⟩))); try go_wp2_with (first | (go_at_call 120; (with_reducible refine (spec_ScaleOk.calls a0_0 a0_1 true _ A8.out).mono ?_); rintro e w23 ⟨rfl, hb⟩; have n0_ := zK (zg (g := gb216) (o := .cells #[.int .i64 a0_0, .int .i64 a0_1] 45 (0, 0)) (by (with_reducible repeat (first | refine zn ?_ _ | refine zd ?_ | refine za ?_ _)); exact BK216.out) hb); have n1_ := zK (zg (g := gb217) (o := .cells #[.int .i64 a1_0, .int .i64 a1_1] 45 (0, 0)) (by (with_reducible repeat (first | refine zn ?_ _ | refine zd ?_ | refine za ?_ _)); exact BK217.out) hb); have n2_ := zK (zp zB hb); clear BK216; clear BK217; clear HB; have BK216 := n0_; have BK217 := n1_; have HB := n2_; clear n0_ n1_ n2_; (try clear hb); (try clear hb2); (try clear hk); (try clear hi); have hcz24_0 : w23.cell? ⟨gb217, 0, none⟩ = some (.int .i64 a1_0) := (zc BK217.out 0).trans rfl; have hcz24_1 : w23.cell? ⟨gb217, 1, none⟩ = some (.int .i64 a1_1) := (zc BK217.out 1).trans rfl; have hfz24_0 := zf BK217.out 0; have hfz24_1 := zf BK217.out 1) | (go_at_call 120; (with_reducible refine (spec_ScaleOk.calls a1_0 a1_1 true _ A10.out).mono ?_); rintro e w25 ⟨rfl, hb⟩; have n0_ := zK (zg (g := gb216) (o := .cells #[.int .i64 a0_0, .int .i64 a0_1] 45 (0, 0)) (by (with_reducible repeat (first | refine zn ?_ _ | refine zd ?_ | refine za ?_ _)); exact BK216.out) hb); have n1_ := zK (zg (g := gb217) (o := .cells #[.int .i64 a1_0, .int .i64 a1_1] 45 (0, 0)) (by (with_reducible repeat (first | refine zn ?_ _ | refine zd ?_ | refine za ?_ _)); exact BK217.out) hb); have n2_ := zK (zp zB hb); clear BK216; clear BK217; clear HB; have BK216 := n0_; have BK217 := n1_; have HB := n2_; clear n0_ n1_ n2_; (try clear hb); (try clear hb2); (try clear hk); (try clear hi)) | (go_at_call 72; (with_reducible refine (spec_l14Bytes.calls k _ _ l2 false _ ?side1 ?side2 A13.out).mono ?_); (case side1 => repeat (first | exact (Kd.C_below HR2.out HB.out) | (with_reducible refine Kd.C_alloc ?_ _) | (with_reducible refine Kd.C_drewN ?_ _) | (with_reducible refine Kd.C_drew ?_))); (case side2 => exact HC2.out); rintro e w' ⟨rfl, ⟨nd, rfl⟩⟩; (try first | exact ⟨rfl, _, World.drewN_drewN _ _ _⟩ | exact ⟨rfl, _, Eq.trans (World.drewN_drewN _ _ _) (congrArg (World.drewN _) (Nat.add_assoc _ _ _))⟩))))
     go_meet
     case rel => exact ⟨_, (true), zR, H', ⟨by first | omega | exact Nat.le_refl _⟩, ⟨by (with_reducible repeat (first | refine zn ?_ _ | refine zd ?_ | refine za ?_ _)); exact BK216.out⟩, ⟨by (with_reducible repeat (first | refine zn ?_ _ | refine zd ?_ | refine za ?_ _)); exact BK217.out⟩, ⟨zB⟩⟩
   subst c14
   have H1 : ((spec_l14Bytes.f k l3).bind fun t221 => (spec_DotBytes.j0 k l2 l3 (!t221) a0_0 a0_1 a1_0 a1_1)) = some r := by rw [if_pos rfl] at H; exact H
   clear H
   have H := H1
   clear H1
   replace H := Option.bind_eq_some_iff.mp H
   obtain ⟨t221, A150, H⟩ := H
   replace H : (spec_DotBytes.j0 k l2 l3 (!t221) a0_0 a0_1 a1_0 a1_1) = some r := H
   have A15 := zK A150
   clear A150
   have H' := zK H
   clear H
   have hnb16 := NB216_217.out
   have hnc16 := NB217_216.out
   have hcz17_0 : w7.cell? ⟨gb216, 0, none⟩ = some (.int .i64 a0_0) := (zc BK216.out 0).trans rfl
   have hcz17_1 : w7.cell? ⟨gb216, 1, none⟩ = some (.int .i64 a0_1) := (zc BK216.out 1).trans rfl
   have hfz17_0 := zf BK216.out 0
   have hfz17_1 := zf BK216.out 1
   go_wp2_with (first | (go_at_call 120; (with_reducible refine (spec_ScaleOk.calls a0_0 a0_1 true _ A8.out).mono ?_); rintro e w18 ⟨rfl, hb⟩; have n0_ := zK (zg (g := gb216) (o := .cells #[.int .i64 a0_0, .int .i64 a0_1] 45 (0, 0)) (by (with_reducible repeat (first | refine zn ?_ _ | refine zd ?_ | refine za ?_ _)); exact BK216.out) hb); have n1_ := zK (zg (g := gb217) (o := .cells #[.int .i64 a1_0, .int .i64 a1_1] 45 (0, 0)) (by (with_reducible repeat (first | refine zn ?_ _ | refine zd ?_ | refine za ?_ _)); exact BK217.out) hb); have n2_ := zK (zp zB hb); clear BK216; clear BK217; clear HB; have BK216 := n0_; have BK217 := n1_; have HB := n2_; clear n0_ n1_ n2_; (try clear hb); (try clear hb2); (try clear hk); (try clear hi); have hcz19_0 : w18.cell? ⟨gb217, 0, none⟩ = some (.int .i64 a1_0) := (zc BK217.out 0).trans rfl; have hcz19_1 : w18.cell? ⟨gb217, 1, none⟩ = some (.int .i64 a1_1) := (zc BK217.out 1).trans rfl; have hfz19_0 := zf BK217.out 0; have hfz19_1 := zf BK217.out 1) | (go_at_call 120; (with_reducible refine (spec_ScaleOk.calls a1_0 a1_1 true _ A10.out).mono ?_); rintro e w20 ⟨rfl, hb⟩; have n0_ := zK (zg (g := gb216) (o := .cells #[.int .i64 a0_0, .int .i64 a0_1] 45 (0, 0)) (by (with_reducible repeat (first | refine zn ?_ _ | refine zd ?_ | refine za ?_ _)); exact BK216.out) hb); have n1_ := zK (zg (g := gb217) (o := .cells #[.int .i64 a1_0, .int .i64 a1_1] 45 (0, 0)) (by (with_reducible repeat (first | refine zn ?_ _ | refine zd ?_ | refine za ?_ _)); exact BK217.out) hb); have n2_ := zK (zp zB hb); clear BK216; clear BK217; clear HB; have BK216 := n0_; have BK217 := n1_; have HB := n2_; clear n0_ n1_ n2_; (try clear hb); (try clear hb2); (try clear hk); (try clear hi)) | (go_at_call 72; (with_reducible refine (spec_l14Bytes.calls k _ _ l2 true _ ?side1 ?side2 A13.out).mono ?_); (case side1 => repeat (first | exact (Kd.C_below HR2.out HB.out) | (with_reducible refine Kd.C_alloc ?_ _) | (with_reducible refine Kd.C_drewN ?_ _) | (with_reducible refine Kd.C_drew ?_))); (case side2 => exact HC2.out); rintro e w' ⟨rfl, ⟨nd, rfl⟩⟩; (try first | exact ⟨rfl, _, World.drewN_drewN _ _ _⟩ | exact ⟨rfl, _, Eq.trans (World.drewN_drewN _ _ _) (congrArg (World.drewN _) (Nat.add_assoc _ _ _))⟩)) | (go_at_call 72; (with_reducible refine (spec_l14Bytes.calls k _ _ l3 t221 _ ?side1 ?side2 A15.out).mono ?_); (case side1 => repeat (first | exact (Kd.C_below HR3.out zB) | (with_reducible refine Kd.C_alloc ?_ _) | (with_reducible refine Kd.C_drewN ?_ _) | (with_reducible refine Kd.C_drew ?_))); (case side2 => exact HC3.out); rintro e w' ⟨rfl, ⟨nd, rfl⟩⟩; (try first | exact ⟨rfl, _, World.drewN_drewN _ _ _⟩ | exact ⟨rfl, _, Eq.trans (World.drewN_drewN _ _ _) (congrArg (World.drewN _) (Nat.add_assoc _ _ _))⟩)))
   repeat (go_quiet (first | (go_at_call 120; (with_reducible refine (spec_ScaleOk.calls a0_0 a0_1 true _ A8.out).mono ?_); rintro e w18 ⟨rfl, hb⟩; have n0_ := zK (zg (g := gb216) (o := .cells #[.int .i64 a0_0, .int .i64 a0_1] 45 (0, 0)) (by (with_reducible repeat (first | refine zn ?_ _ | refine zd ?_ | refine za ?_ _)); exact BK216.out) hb); have n1_ := zK (zg (g := gb217) (o := .cells #[.int .i64 a1_0, .int .i64 a1_1] 45 (0, 0)) (by (with_reducible repeat (first | refine zn ?_ _ | refine zd ?_ | refine za ?_ _)); exact BK217.out) hb); have n2_ := zK (zp zB hb); clear BK216; clear BK217; clear HB; have BK216 := n0_; have BK217 := n1_; have HB := n2_; clear n0_ n1_ n2_; (try clear hb); (try clear hb2); (try clear hk); (try clear hi); have hcz19_0 : w18.cell? ⟨gb217, 0, none⟩ = some (.int .i64 a1_0) := (zc BK217.out 0).trans rfl; have hcz19_1 : w18.cell? ⟨gb217, 1, none⟩ = some (.int .i64 a1_1) := (zc BK217.out 1).trans rfl; have hfz19_0 := zf BK217.out 0; have hfz19_1 := zf BK217.out 1) | (go_at_call 120; (with_reducible refine (spec_ScaleOk.calls a1_0 a1_1 true _ A10.out).mono ?_); rintro e w20 ⟨rfl, hb⟩; have n0_ := zK (zg (g := gb216) (o := .cells #[.int .i64 a0_0, .int .i64 a0_1] 45 (0, 0)) (by (with_reducible repeat (first | refine zn ?_ _ | refine zd ?_ | refine za ?_ _)); exact BK216.out) hb); have n1_ := zK (zg (g := gb217) (o := .cells #[.int .i64 a1_0, .int .i64 a1_1] 45 (0, 0)) (by (with_reducible repeat (first | refine zn ?_ _ | refine zd ?_ | refine za ?_ _)); exact BK217.out) hb); have n2_ := zK (zp zB hb); clear BK216; clear BK217; clear HB; have BK216 := n0_; have BK217 := n1_; have HB := n2_; clear n0_ n1_ n2_; (try clear hb); (try clear hb2); (try clear hk); (try clear hi)) | (go_at_call 72; (with_reducible refine (spec_l14Bytes.calls k _ _ l2 true _ ?side1 ?side2 A13.out).mono ?_); (case side1 => repeat (first | exact (Kd.C_below HR2.out HB.out) | (with_reducible refine Kd.C_alloc ?_ _) | (with_reducible refine Kd.C_drewN ?_ _) | (with_reducible refine Kd.C_drew ?_))); (case side2 => exact HC2.out); rintro e w' ⟨rfl, ⟨nd, rfl⟩⟩; (try first | exact ⟨rfl, _, World.drewN_drewN _ _ _⟩ | exact ⟨rfl, _, Eq.trans (World.drewN_drewN _ _ _) (congrArg (World.drewN _) (Nat.add_assoc _ _ _))⟩)) | (go_at_call 72; (with_reducible refine (spec_l14Bytes.calls k _ _ l3 t221 _ ?side1 ?side2 A15.out).mono ?_); (case side1 => repeat (first | exact (Kd.C_below HR3.out zB) | (with_reducible refine Kd.C_alloc ?_ _) | (with_reducible refine Kd.C_drewN ?_ _) | (with_reducible refine Kd.C_drew ?_))); (case side2 => exact HC3.out); rintro e w' ⟨rfl, ⟨nd, rfl⟩⟩; (try first | exact ⟨rfl, _, World.drewN_drewN _ _ _⟩ | exact ⟨rfl, _, Eq.trans (World.drewN_drewN _ _ _) (congrArg (World.drewN _) (Nat.add_assoc _ _ _))⟩))); try go_wp2_with (first | (go_at_call 120; (with_reducible refine (spec_ScaleOk.calls a0_0 a0_1 true _ A8.out).mono ?_); rintro e w18 ⟨rfl, hb⟩; have n0_ := zK (zg (g := gb216) (o := .cells #[.int .i64 a0_0, .int .i64 a0_1] 45 (0, 0)) (by (with_reducible repeat (first | refine zn ?_ _ | refine zd ?_ | refine za ?_ _)); exact BK216.out) hb); have n1_ := zK (zg (g := gb217) (o := .cells #[.int .i64 a1_0, .int .i64 a1_1] 45 (0, 0)) (by (with_reducible repeat (first | refine zn ?_ _ | refine zd ?_ | refine za ?_ _)); exact BK217.out) hb); have n2_ := zK (zp zB hb); clear BK216; clear BK217; clear HB; have BK216 := n0_; have BK217 := n1_; have HB := n2_; clear n0_ n1_ n2_; (try clear hb); (try clear hb2); (try clear hk); (try clear hi); have hcz19_0 : w18.cell? ⟨gb217, 0, none⟩ = some (.int .i64 a1_0) := (zc BK217.out 0).trans rfl; have hcz19_1 : w18.cell? ⟨gb217, 1, none⟩ = some (.int .i64 a1_1) := (zc BK217.out 1).trans rfl; have hfz19_0 := zf BK217.out 0; have hfz19_1 := zf BK217.out 1) | (go_at_call 120; (with_reducible refine (spec_ScaleOk.calls a1_0 a1_1 true _ A10.out).mono ?_); rintro e w20 ⟨rfl, hb⟩; have n0_ := zK (zg (g := gb216) (o := .cells #[.int .i64 a0_0, .int .i64 a0_1] 45 (0, 0)) (by (with_reducible repeat (first | refine zn ?_ _ | refine zd ?_ | refine za ?_ _)); exact BK216.out) hb); have n1_ := zK (zg (g := gb217) (o := .cells #[.int .i64 a1_0, .int .i64 a1_1] 45 (0, 0)) (by (with_reducible repeat (first | refine zn ?_ _ | refine zd ?_ | refine za ?_ _)); exact BK217.out) hb); have n2_ := zK (zp zB hb); clear BK216; clear BK217; clear HB; have BK216 := n0_; have BK217 := n1_; have HB := n2_; clear n0_ n1_ n2_; (try clear hb); (try clear hb2); (try clear hk); (try clear hi)) | (go_at_call 72; (with_reducible refine (spec_l14Bytes.calls k _ _ l2 true _ ?side1 ?side2 A13.out).mono ?_); (case side1 => repeat (first | exact (Kd.C_below HR2.out HB.out) | (with_reducible refine Kd.C_alloc ?_ _) | (with_reducible refine Kd.C_drewN ?_ _) | (with_reducible refine Kd.C_drew ?_))); (case side2 => exact HC2.out); rintro e w' ⟨rfl, ⟨nd, rfl⟩⟩; (try first | exact ⟨rfl, _, World.drewN_drewN _ _ _⟩ | exact ⟨rfl, _, Eq.trans (World.drewN_drewN _ _ _) (congrArg (World.drewN _) (Nat.add_assoc _ _ _))⟩)) | (go_at_call 72; (with_reducible refine (spec_l14Bytes.calls k _ _ l3 t221 _ ?side1 ?side2 A15.out).mono ?_); (case side1 => repeat (first | exact (Kd.C_below HR3.out zB) | (with_reducible refine Kd.C_alloc ?_ _) | (with_reducible refine Kd.C_drewN ?_ _) | (with_reducible refine Kd.C_drew ?_))); (case side2 => exact HC3.out); rintro e w' ⟨rfl, ⟨nd, rfl⟩⟩; (try first | exact ⟨rfl, _, World.drewN_drewN _ _ _⟩ | exact ⟨rfl, _, Eq.trans (World.drewN_drewN _ _ _) (congrArg (World.drewN _) (Nat.add_assoc _ _ _))⟩))))
   go_meet
   case rel => exact ⟨_, (!t221), zR, H', ⟨by first | omega | exact Nat.le_refl _⟩, ⟨by (with_reducible repeat (first | refine zn ?_ _ | refine zd ?_ | refine za ?_ _)); exact BK216.out⟩, ⟨by (with_reducible repeat (first | refine zn ?_ _ | refine zd ?_ | refine za ?_ _)); exact BK217.out⟩, ⟨zB⟩⟩
  case rest =>
   clear HC5
   try clear c1
   try clear c2
   try clear p2
   try clear c3
   try clear c7
   try clear c9
   try clear c11
   try clear c12
   try clear c12b0
   try clear c12b1
   try clear c12b2
   try clear c14
   try clear c16
   try clear c21
   try clear c26
   try clear c31
   try clear c36
   try clear hcz17_0
   try clear hcz17_1
   try clear hcz19_0
   try clear hcz19_1
   try clear hcz22_0
   try clear hcz22_1
   try clear hcz24_0
   try clear hcz24_1
   try clear hcz27_0
   try clear hcz27_1
   try clear hcz29_0
   try clear hcz29_1
   try clear hcz32_0
   try clear hcz32_1
   try clear hcz34_0
   try clear hcz34_1
   try clear hcz37_0
   try clear hcz37_1
   try clear hfz17_0
   try clear hfz17_1
   try clear hfz19_0
   try clear hfz19_1
   try clear hfz22_0
   try clear hfz22_1
   try clear hfz24_0
   try clear hfz24_1
   try clear hfz27_0
   try clear hfz27_1
   try clear hfz29_0
   try clear hfz29_1
   try clear hfz32_0
   try clear hfz32_1
   try clear hfz34_0
   try clear hfz34_1
   try clear hfz37_0
   try clear hfz37_1
   obtain ⟨kq, x35_4, rfl, HA, HJ4, BK216, BK217, HB⟩ := hcut
   cases kq with
   | zero => exact absurd HA.out (by simp [spec_DotBytes.j0])
   | succ kj4 =>
    have H := HA.out
    clear HA
    simp only [spec_DotBytes.j0] at H
    by_cases c39 : x35_4 = true
    · subst c39
      have H1 : (some 0) = some r := by rw [if_pos rfl] at H; exact H
      clear H
      have H := H1
      clear H1
      obtain rfl := Option.some.inj H
      go_wp2
      repeat (go_quiet (fail); try go_wp2)
      go_ret
      exact ⟨by first | rfl | (simp [errW_none, errW_some] <;> rfl) | (simp [*, errW_none, errW_some] <;> rfl), zB⟩
    replace c39 := Bool.eq_false_iff.mpr c39
    subst c39
    have H1 : (spec_DotBytes.l0 kj4 l2 l3 0 0 a0_0 a0_1 a1_0 a1_1) = some r := by rw [if_neg (show ¬ (false = true) by decide)] at H; exact H
    clear H
    have H := H1
    clear H1
    have H' := zK H
    clear H
    go_wp2
    repeat (go_quiet (fail); try go_wp2)
    go_loopg [9, 10] kj4 (fun kq v9 v10 w' => ∃ (x9_2 : Int) (x10_2 : Int), v9 = .int .i64 x9_2 ∧ v10 = .int .i64 x10_2 ∧ Aside0 (spec_DotBytes.l0 kq l2 l3 x9_2 x10_2 a0_0 a0_1 a1_0 a1_1 = some r) ∧ Aside0 (kq ≤ kj4) ∧ Aside0 (w'.heap[gb216]? = some (.cells #[.int .i64 a0_0, .int .i64 a0_1] 45 (0, 0))) ∧ Aside0 (w'.heap[gb217]? = some (.cells #[.int .i64 a1_0, .int .i64 a1_1] 45 (0, 0))) ∧ Aside0 (Below w.heap.size w w'))
    case atStart => exact ⟨(0), (0), zR, zR, H', ⟨Nat.le_refl _⟩, ⟨by (with_reducible repeat (first | refine zn ?_ _ | refine zd ?_ | refine za ?_ _)); exact BK216.out⟩, ⟨by (with_reducible repeat (first | refine zn ?_ _ | refine zd ?_ | refine za ?_ _)); exact BK217.out⟩, ⟨zB⟩⟩
    clear H'
    try clear c1
    try clear c2
    try clear p2
    try clear c3
    try clear c7
    try clear c9
    try clear c11
    try clear c12
    try clear c12b0
    try clear c12b1
    try clear c12b2
    try clear c14
    try clear c16
    try clear c21
    try clear c26
    try clear c31
    try clear c36
    try clear c39
    try clear hcz17_0
    try clear hcz17_1
    try clear hcz19_0
    try clear hcz19_1
    try clear hcz22_0
    try clear hcz22_1
    try clear hcz24_0
    try clear hcz24_1
    try clear hcz27_0
    try clear hcz27_1
    try clear hcz29_0
    try clear hcz29_1
    try clear hcz32_0
    try clear hcz32_1
    try clear hcz34_0
    try clear hcz34_1
    try clear hcz37_0
    try clear hcz37_1
    try clear hfz17_0
    try clear hfz17_1
    try clear hfz19_0
    try clear hfz19_1
    try clear hfz22_0
    try clear hfz22_1
    try clear hfz24_0
    try clear hfz24_1
    try clear hfz27_0
    try clear hfz27_1
    try clear hfz29_0
    try clear hfz29_1
    try clear hfz32_0
    try clear hfz32_1
    try clear hfz34_0
    try clear hfz34_1
    try clear hfz37_0
    try clear hfz37_1
    try clear p2
    obtain ⟨x9_2, x10_2, rfl, rfl, HA, HK2, BK216, BK217, HB⟩ := hrel
    rcases gk with _ | k2
    · exact absurd HA.out (by simp [spec_DotBytes.l0])
    have H := HA.out
    clear HA
    simp only [spec_DotBytes.l0] at H
    by_cases c40 : x10_2 < (l2.length : Int)
    rotate_left
    · rw [if_neg c40] at H
      have c40b0 : decide (x10_2 < (l2.length : Int)) = false := decide_eq_false c40
      clear c40
      obtain rfl := Option.some.inj H
      go_wp2
      repeat (go_quiet (fail); try go_wp2)
      go_ret
      exact ⟨by first | rfl | (simp [errW_none, errW_some] <;> rfl) | (simp [*, errW_none, errW_some] <;> rfl), zB⟩
    rw [if_pos c40] at H
    have c40b0 : decide (x10_2 < (l2.length : Int)) = true := decide_eq_true c40
    clear c40
    by_cases c41 : 0 ≤ x10_2
    rotate_left
    · rw [if_neg c41] at H
      exact absurd H (by simp)
    rw [if_pos c41] at H
    have c41b0 : decide (0 ≤ x10_2) = true := decide_eq_true c41
    clear c41
    by_cases c42 : x10_2 < (l3.length : Int)
    rotate_left
    · rw [if_neg c42] at H
      exact absurd H (by simp)
    rw [if_pos c42] at H
    have c42b0 : decide (x10_2 < (l3.length : Int)) = true := decide_eq_true c42
    clear c42
    have H' := zK H
    clear H
    have p222 : 0 ≤ (x10_2 : Int) := of_decide_eq_true zA
    have q222 : x10_2 < (l2.length : Int) := of_decide_eq_true zA
    obtain ⟨ad222, e222, hx222_0⟩ := Kd.at_int HR2.out x10_2 p222 q222
    cases e222
    (try replace hx222_0 := (HB.out.cell (World.block_lt_of_cell? w _ hx222_0)).trans hx222_0)
    replace p222 := eq_true p222
    replace q222 := eq_true q222
    have hnb43 := NB216_217.out
    have hnc43 := NB217_216.out
    have hcz44_0 : wr.cell? ⟨gb216, 0, none⟩ = some (.int .i64 a0_0) := (zc BK216.out 0).trans rfl
    have hcz44_1 : wr.cell? ⟨gb216, 1, none⟩ = some (.int .i64 a0_1) := (zc BK216.out 1).trans rfl
    have hfz44_0 := zf BK216.out 0
    have hfz44_1 := zf BK216.out 1
    have p223 : 0 ≤ (x10_2 : Int) := of_decide_eq_true zA
    have q223 : x10_2 < (l3.length : Int) := of_decide_eq_true zA
    obtain ⟨ad223, e223, hx223_0⟩ := Kd.at_int HR3.out x10_2 p223 q223
    cases e223
    (try replace hx223_0 := (HB.out.cell (World.block_lt_of_cell? w _ hx223_0)).trans hx223_0)
    replace p223 := eq_true p223
    replace q223 := eq_true q223
    have hcz45_0 : wr.cell? ⟨gb217, 0, none⟩ = some (.int .i64 a1_0) := (zc BK217.out 0).trans rfl
    have hcz45_1 : wr.cell? ⟨gb217, 1, none⟩ = some (.int .i64 a1_1) := (zc BK217.out 1).trans rfl
    have hfz45_0 := zf BK217.out 0
    have hfz45_1 := zf BK217.out 1
    go_wp2
    repeat (go_quiet (fail); try go_wp2)
    go_roundg k2
    case measure => have := HJ4.out; have := HK2.out; omega
    case rel => exact ⟨(wrap64 (x9_2 + (wrap64 ((wrap64 ((rd l2 x10_2) - a0_1)) * (wrap64 ((rd l3 x10_2) - a1_1)))))), (wrap64 (x10_2 + 1)), zR, zR, H', ⟨by have := HJ4.out; have := HK2.out; omega⟩, ⟨by (with_reducible repeat (first | refine zn ?_ _ | refine zd ?_ | refine za ?_ _)); exact BK216.out⟩, ⟨by (with_reducible repeat (first | refine zn ?_ _ | refine zd ?_ | refine za ?_ _)); exact BK217.out⟩, ⟨zB⟩⟩

/-! ### spec_l14Clip: function 75 -/
def spec_l14Clip.f (a0 : Int) (a1 : Int) (a2 : Int) : Option (Int) := if a0 < a1 then (some a1) else (if a0 > a2 then (some a2) else (some a0))
set_option maxHeartbeats 8000000 in
set_option maxRecDepth 100000 in
theorem spec_l14Clip.calls (a0 : Int) (a1 : Int) (a2 : Int) (r : Int) (w : World) (h : spec_l14Clip.f a0 a1 a2 = some r) :
    Calls Try.prog 75 #[.int .i64 a0, .int .i64 a1, .int .i64 a2] w fun e w' => e = .returned (.int .i64 r) ∧ Drawn0 w w' := by
  have H : (if a0 < a1 then (some a1) else (if a0 > a2 then (some a2) else (some a0))) = some r := h
  clear h
  by_cases c4 : a0 < a1
  · rw [if_pos c4] at H
    have c4b0 : decide (a0 < a1) = true := decide_eq_true c4
    clear c4
    obtain rfl := Option.some.inj H
    go_enter Try.func75, Try.ntmps75
    go_wp2
    go_ret
    exact ⟨zR, zD⟩
  rw [if_neg c4] at H
  have c4b0 : decide (a0 < a1) = false := decide_eq_false c4
  clear c4
  by_cases c5 : a0 > a2
  · rw [if_pos c5] at H
    have c5b0 : decide (a2 < a0) = true := decide_eq_true c5
    clear c5
    obtain rfl := Option.some.inj H
    go_enter Try.func75, Try.ntmps75
    go_wp2
    go_ret
    exact ⟨zR, zD⟩
  rw [if_neg c5] at H
  have c5b0 : decide (a2 < a0) = false := decide_eq_false c5
  clear c5
  obtain rfl := Option.some.inj H
  go_enter Try.func75, Try.ntmps75
  go_wp2
  go_ret
  exact ⟨zR, zD⟩

/-! ### spec_Near: function 140 -/
def spec_Near.j0 : Nat → Int → Int → Bool → Option (Int)
  | 0, _, _, _ => none
  | k + 1, x0, x1, x12 => if x12 = true then (some 0) else (if x1 = 0 then (none) else (if (Int.tmod x0 x1) < 0 then ((spec_l2Round.f (wrap64 ((wrap64 (Int.tdiv x0 x1)) - 1)) (wrap64 ((Int.tmod x0 x1) + x1)) x1).bind fun t224 => (some t224)) else ((spec_l2Round.f (wrap64 (Int.tdiv x0 x1)) (Int.tmod x0 x1) x1).bind fun t225 => (some t225))))
def spec_Near.f (k : Nat) (a0 : Int) (a1 : Int) : Option (Int) := if a1 < 1 then (spec_Near.j0 k a0 a1 true) else (spec_Near.j0 k a0 a1 (decide (a1 > 4611686018427387904)))
theorem spec_Near.mono_l : ∀ k, (∀ y0 y1 y2, LeO (spec_Near.j0 k y0 y1 y2) (spec_Near.j0 (k + 1) y0 y1 y2))
  | 0 => fun _ _ _ r h => by simp [spec_Near.j0] at h
  | k + 1 => by
    have ih0 := spec_Near.mono_l k
    · intro y0 y1 y2
      unfold spec_Near.j0
      repeat' first
      | (with_reducible exact ih0 _ _ _)
      | (with_reducible exact LeO.refl _)
      | (with_reducible exact LeO.none _)
      | (with_reducible refine LeO.ite ?_ ?_)
      | (with_reducible refine LeO.bind ?_ (fun _ => ?_))
      | exact ih0 _ _ _
      | exact LeO.none _
      | refine LeO.ite ?_ ?_
      | refine LeO.bind ?_ (fun _ => ?_)
theorem spec_Near.mono : ∀ a0 a1 k, LeO (spec_Near.f k a0 a1) (spec_Near.f (k + 1) a0 a1) := by
  intro a0 a1 k
  have ih0 := spec_Near.mono_l k
  unfold spec_Near.f
  repeat' first
      | (with_reducible exact ih0 _ _ _)
      | (with_reducible exact LeO.refl _)
      | (with_reducible exact LeO.none _)
      | (with_reducible refine LeO.ite ?_ ?_)
      | (with_reducible refine LeO.bind ?_ (fun _ => ?_))
      | exact ih0 _ _ _
      | exact LeO.none _
      | refine LeO.ite ?_ ?_
      | refine LeO.bind ?_ (fun _ => ?_)
set_option maxHeartbeats 8000000 in
set_option maxRecDepth 100000 in
theorem spec_Near.calls (k : Nat) (a0 : Int) (a1 : Int) (r : Int) (w : World) (h : spec_Near.f k a0 a1 = some r) :
    Calls Try.prog 140 #[.int .i64 a0, .int .i64 a1] w fun e w' => e = .returned (.int .i64 r) ∧ Drawn0 w w' := by
  have H : (if a1 < 1 then (spec_Near.j0 k a0 a1 true) else (spec_Near.j0 k a0 a1 (decide (a1 > 4611686018427387904)))) = some r := h
  clear h
  have HC3 := zK H
  clear H
  go_enter Try.func140, Try.ntmps140
  go_upto_region 1 with (fail)
  go_cut [12] (fun v12 wc => ∃ (kq : Nat) (x12_2 : Bool), v12 = .bool x12_2 ∧ Aside0 (spec_Near.j0 kq a0 a1 x12_2 = some r) ∧ Aside0 (kq ≤ k) ∧ Drawn0 w wc)
  case first =>
   have H := HC3.out
   clear HC3
   by_cases c4 : a1 < 1
   · rw [if_pos c4] at H
     have c4b0 : decide (a1 < 1) = true := decide_eq_true c4
     clear c4
     (first | rw [c4b0] | (simp only [i64_w, i32_w]; rw [c4b0]) | skip)
     have H' := zK H
     clear H
     go_wp2
     go_meet
     case rel => exact ⟨_, (true), zR, H', ⟨by first | omega | exact Nat.le_refl _⟩, zD⟩
   rw [if_neg c4] at H
   have c4b0 : decide (a1 < 1) = false := decide_eq_false c4
   clear c4
   (first | rw [c4b0] | (simp only [i64_w, i32_w]; rw [c4b0]) | skip)
   have H' := zK H
   clear H
   go_wp2
   go_meet
   case rel => exact ⟨_, (decide (a1 > 4611686018427387904)), zR, H', ⟨by first | omega | exact Nat.le_refl _⟩, zD⟩
  case rest =>
   clear HC3
   try clear c1
   try clear p2
   try clear c4
   try clear c4b0
   obtain ⟨kq, x12_2, rfl, HA, HJ2, ⟨mc2, rfl⟩⟩ := hcut
   cases kq with
   | zero => exact absurd HA.out (by simp [spec_Near.j0])
   | succ kj2 =>
    have H := HA.out
    clear HA
    simp only [spec_Near.j0] at H
    by_cases c5 : x12_2 = true
    · subst c5
      have H1 : (some 0) = some r := by rw [if_pos rfl] at H; exact H
      clear H
      have H := H1
      clear H1
      obtain rfl := Option.some.inj H
      go_wp2
      go_ret
      exact ⟨zR, zD⟩
    replace c5 := Bool.eq_false_iff.mpr c5
    subst c5
    have H1 : (if a1 = 0 then (none) else (if (Int.tmod a0 a1) < 0 then ((spec_l2Round.f (wrap64 ((wrap64 (Int.tdiv a0 a1)) - 1)) (wrap64 ((Int.tmod a0 a1) + a1)) a1).bind fun t224 => (some t224)) else ((spec_l2Round.f (wrap64 (Int.tdiv a0 a1)) (Int.tmod a0 a1) a1).bind fun t225 => (some t225)))) = some r := by rw [if_neg (show ¬ (false = true) by decide)] at H; exact H
    clear H
    have H := H1
    clear H1
    by_cases c6 : a1 = 0
    · rw [if_pos c6] at H
      exact absurd H (by simp)
    rw [if_neg c6] at H
    have c6b0 : (a1 == 0) = false := beq_eq_false_iff_ne.mpr c6
    have c6b1 : (a1 != 0) = true := bne_iff_ne.mpr c6
    by_cases c7 : (Int.tmod a0 a1) < 0
    rotate_left
    · rw [if_neg c7] at H
      have c7b0 : decide ((Int.tmod a0 a1) < 0) = false := decide_eq_false c7
      clear c7
      replace H := Option.bind_eq_some_iff.mp H
      obtain ⟨t225, A90, H⟩ := H
      replace H : (some t225) = some r := H
      have A9 := zK A90
      clear A90
      obtain rfl := Option.some.inj H
      go_wp2_with (first | ((with_reducible refine gate_callee (f := 121) rfl ?_); refine goesL_ (some 29) rfl rfl Try.func121 (by kernel_rfl) rfl #[.int .i64 (wrap64 (Int.tdiv a0 a1)), .int .i64 (Int.tmod a0 a1), .int .i64 a1] rfl zL ?_; (with_reducible refine (spec_l2Round.calls (wrap64 (Int.tdiv a0 a1)) (Int.tmod a0 a1) a1 t225 _ A9.out).mono ?_); rintro e w' ⟨rfl, ⟨nd, rfl⟩⟩; refine ⟨_, rfl, ?_⟩))
      go_ret
      exact ⟨zR, zD⟩
    rw [if_pos c7] at H
    have c7b0 : decide ((Int.tmod a0 a1) < 0) = true := decide_eq_true c7
    clear c7
    replace H := Option.bind_eq_some_iff.mp H
    obtain ⟨t224, A80, H⟩ := H
    replace H : (some t224) = some r := H
    have A8 := zK A80
    clear A80
    obtain rfl := Option.some.inj H
    go_wp2_with (first | ((with_reducible refine gate_callee (f := 121) rfl ?_); refine goesL_ (some 29) rfl rfl Try.func121 (by kernel_rfl) rfl #[.int .i64 (wrap64 ((wrap64 (Int.tdiv a0 a1)) - 1)), .int .i64 (wrap64 ((Int.tmod a0 a1) + a1)), .int .i64 a1] rfl zL ?_; (with_reducible refine (spec_l2Round.calls (wrap64 ((wrap64 (Int.tdiv a0 a1)) - 1)) (wrap64 ((Int.tmod a0 a1) + a1)) a1 t224 _ A8.out).mono ?_); rintro e w' ⟨rfl, ⟨nd, rfl⟩⟩; refine ⟨_, rfl, ?_⟩))
    go_ret
    exact ⟨zR, zD⟩

/-! ### spec_Shift: function 122 -/
def spec_Shift.f (k : Nat) (a0 : Int) (a1 : Int) : Option (Int) := if a1 < 0 then (some 0) else (if a1 > 62 then (some 0) else (if 0 ≤ (IntKind.u64.wrap (a1)) then ((spec_Near.f k a0 (shl .i64 1 (IntKind.u64.wrap (a1)))).bind fun t226 => (some t226)) else (none)))
theorem spec_Shift.mono : ∀ a0 a1 k, LeO (spec_Shift.f k a0 a1) (spec_Shift.f (k + 1) a0 a1) := by
  intro a0 a1 k
  unfold spec_Shift.f
  repeat' first
      | (with_reducible exact spec_Near.mono _ _ _)
      | (with_reducible exact LeO.refl _)
      | (with_reducible exact LeO.none _)
      | (with_reducible refine LeO.ite ?_ ?_)
      | (with_reducible refine LeO.bind ?_ (fun _ => ?_))
      | exact spec_Near.mono _ _ _
      | exact LeO.none _
      | refine LeO.ite ?_ ?_
      | refine LeO.bind ?_ (fun _ => ?_)
set_option maxHeartbeats 8000000 in
set_option maxRecDepth 100000 in
theorem spec_Shift.calls (k : Nat) (a0 : Int) (a1 : Int) (r : Int) (w : World) (h : spec_Shift.f k a0 a1 = some r) :
    Calls Try.prog 122 #[.int .i64 a0, .int .i64 a1] w fun e w' => e = .returned (.int .i64 r) ∧ Drawn0 w w' := by
  have H : (if a1 < 0 then (some 0) else (if a1 > 62 then (some 0) else (if 0 ≤ (IntKind.u64.wrap (a1)) then ((spec_Near.f k a0 (shl .i64 1 (IntKind.u64.wrap (a1)))).bind fun t226 => (some t226)) else (none)))) = some r := h
  clear h
  by_cases c3 : a1 < 0
  · rw [if_pos c3] at H
    have c3b0 : decide (a1 < 0) = true := decide_eq_true c3
    clear c3
    obtain rfl := Option.some.inj H
    go_enter Try.func122, Try.ntmps122
    go_wp2
    go_ret
    exact ⟨zR, zD⟩
  rw [if_neg c3] at H
  have c3b0 : decide (a1 < 0) = false := decide_eq_false c3
  clear c3
  by_cases c4 : a1 > 62
  · rw [if_pos c4] at H
    have c4b0 : decide (62 < a1) = true := decide_eq_true c4
    clear c4
    obtain rfl := Option.some.inj H
    go_enter Try.func122, Try.ntmps122
    go_wp2
    go_ret
    exact ⟨zR, zD⟩
  rw [if_neg c4] at H
  have c4b0 : decide (62 < a1) = false := decide_eq_false c4
  clear c4
  obtain ⟨ji5, hji5⟩ : ∃ j_ : Int, (IntKind.u64.wrap (a1)) = j_ := ⟨_, rfl⟩
  replace H : (if 0 ≤ (ji5) then ((spec_Near.f k a0 (shl .i64 1 (ji5))).bind fun t226 => (some t226)) else (none)) = some r := by first | (rw [hji5] at H; exact H) | (simp only [hji5] at H ⊢; exact H)
  by_cases c6 : 0 ≤ (ji5)
  rotate_left
  · rw [if_neg c6] at H
    exact absurd H (by simp)
  rw [if_pos c6] at H
  have c6b0 := eq_true c6
  have c6b1 : decide (0 ≤ (ji5)) = true := decide_eq_true c6
  clear c6
  obtain ⟨ji7, hji7⟩ : ∃ j_ : Int, (shl .i64 1 (ji5)) = j_ := ⟨_, rfl⟩
  replace H : ((spec_Near.f k a0 (ji7)).bind fun t226 => (some t226)) = some r := by first | (rw [hji7] at H; exact H) | (simp only [hji7] at H ⊢; exact H)
  have hji7_ : (IntKind.i64.wrap (1 * 2 ^ min (ji5).toNat 64)) = ji7 := hji7
  have hji7z : (ji5) ≤ 64 → (IntKind.i64.wrap (1 * 2 ^ (ji5).toNat)) = ji7 := shl_small hji7
  have hji7u : (IntKind.i64.wrap (2 ^ min (ji5).toNat 64)) = ji7 := by have h_ := hji7_; rw [Int.one_mul] at h_; exact h_
  have hji7v : (ji5) ≤ 64 → (IntKind.i64.wrap (2 ^ (ji5).toNat)) = ji7 := fun hle_ => by have h_ := hji7z hle_; rw [Int.one_mul] at h_; exact h_
  have hji7y : (wrap64 (1 * 2 ^ min (ji5).toNat 64)) = ji7 := (i64_w _).symm.trans hji7_
  have hji7x : (ji5) ≤ 64 → (wrap64 (1 * 2 ^ (ji5).toNat)) = ji7 := fun h_ => (i64_w _).symm.trans (hji7z h_)
  replace H := Option.bind_eq_some_iff.mp H
  obtain ⟨t226, A80, H⟩ := H
  replace H : (some t226) = some r := H
  have A8 := zK A80
  clear A80
  obtain rfl := Option.some.inj H
  go_enter Try.func122, Try.ntmps122
  go_wp2_with (first | ((with_reducible refine gate_callee (f := 140) rfl ?_); refine goesL_ (some 15) rfl rfl Try.func140 (by kernel_rfl) rfl #[.int .i64 a0, .int .i64 ji7] rfl (by (try simp only [List.map_toArray, List.map_cons, List.map_nil]); first | done | (simp only [hji7]; rfl) | rfl | (simp only [List.length_drop, List.length_take]; rfl)) ?_; (with_reducible refine (spec_Near.calls k a0 ji7 t226 _ A8.out).mono ?_); rintro e w' ⟨rfl, ⟨nd, rfl⟩⟩; refine ⟨_, rfl, ?_⟩))
  go_ret
  exact ⟨by first | rfl | (simp; done) | (simp only [← hji5, ← hji7] <;> (first | rfl | simp)) | (simp [*]; done), zD⟩

end Go.Proofs.Ytemcipcijhkhjaa.PFnMatBound
