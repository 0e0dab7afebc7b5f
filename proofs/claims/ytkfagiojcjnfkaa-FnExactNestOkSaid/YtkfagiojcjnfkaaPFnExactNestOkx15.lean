-- Printed out of the translation by this session's own turned copy of a printer; Lean checks it.
import Derived.Test.YtkfagiojcjnfkaaPFnExactNestOkx0
namespace Go.Proofs.Ytkfagiojcjnfkaa.PFnExactNestOk
open Go.RowKit Go.Proofs.YtkfagiojcjnfkaaW.PrintWords Go.Proofs.YtkfagiojcjnfkaaW.PrintLast Go.Proofs.YtkfagiojcjnfkaaW.PrintMore
attribute [local go_sem] max2_int min2_int max_two min_two max_three min_three max_four min_four   -- for this text's walks alone
set_option linter.unusedVariables false
set_option linter.unusedSimpArgs false

/-! ### laws_eqIntS: function 42 -/
def laws_eqIntS.l0 : Nat → List Int → List Int → Int → Option (Bool)
  | 0, _, _, _ => none
  | k + 1, x0, x1, x5 => if x5 < (x0.length : Int) then (if 0 ≤ x5 then (if x5 < (x1.length : Int) then (if (rd x0 x5) = (rd x1 x5) then (laws_eqIntS.l0 k x0 x1 (wrap64 (x5 + 1))) else (some false)) else (none)) else (none)) else (some true)
def laws_eqIntS.f (k : Nat) (l0 : List Int) (l1 : List Int) : Option (Bool) := if (l0.length : Int) = (l1.length : Int) then (laws_eqIntS.l0 k l0 l1 0) else (some false)
theorem laws_eqIntS.mono_l : ∀ k, (∀ y0 y1 y2, LeO (laws_eqIntS.l0 k y0 y1 y2) (laws_eqIntS.l0 (k + 1) y0 y1 y2))
  | 0 => fun _ _ _ r h => by simp [laws_eqIntS.l0] at h
  | k + 1 => by
    have ih0 := laws_eqIntS.mono_l k
    · intro y0 y1 y2
      unfold laws_eqIntS.l0
      repeat' first
      | (with_reducible exact ih0 _ _ _)
      | (with_reducible exact LeO.refl _)
      | (with_reducible exact LeO.none _)
      | (with_reducible refine LeO.ite ?_ ?_)
      | (with_reducible refine LeO.bind ?_ (fun _ => ?_))
      | exact ih0 _ _ _
      | exact LeO.none _
      | refine LeO.ite ?_ ?_
      | refine LeO.bind ?_ (fun _ => ?_)
theorem laws_eqIntS.mono : ∀ a0 a1 k, LeO (laws_eqIntS.f k a0 a1) (laws_eqIntS.f (k + 1) a0 a1) := by
  intro a0 a1 k
  have ih0 := laws_eqIntS.mono_l k
  unfold laws_eqIntS.f
  repeat' first
      | (with_reducible exact ih0 _ _ _)
      | (with_reducible exact LeO.refl _)
      | (with_reducible exact LeO.none _)
      | (with_reducible refine LeO.ite ?_ ?_)
      | (with_reducible refine LeO.bind ?_ (fun _ => ?_))
      | exact ih0 _ _ _
      | exact LeO.none _
      | refine LeO.ite ?_ ?_
      | refine LeO.bind ?_ (fun _ => ?_)
set_option maxHeartbeats 8000000 in
set_option maxRecDepth 100000 in
theorem laws_eqIntS.calls (k : Nat) (A0 : Option Addr) (c0 : Nat) (l0 : List Int) (A1 : Option Addr) (c1 : Nat) (l1 : List Int) (r : Bool) (w : World) (hr0 : Kd.C (Kd.int .i64) w A0 l0.length l0) (hc0 : l0.length ≤ c0) (hr1 : Kd.C (Kd.int .i64) w A1 l1.length l1) (hc1 : l1.length ≤ c1) (h : laws_eqIntS.f k l0 l1 = some r) :
    Calls Try.prog 42 #[.slice A0 l0.length c0, .slice A1 l1.length c1] w fun e w' => e = .returned (.bool r) ∧ Drawn0 w w' := by
  have HR0 := zK hr0
  have HC0 := zK hc0
  clear hr0 hc0
  have HR1 := zK hr1
  have HC1 := zK hc1
  clear hr1 hc1
  have H : (if (l0.length : Int) = (l1.length : Int) then (laws_eqIntS.l0 k l0 l1 0) else (some false)) = some r := h
  clear h
  by_cases c3 : (l0.length : Int) = (l1.length : Int)
  rotate_left
  · rw [if_neg c3] at H
    have c3b0 : ((l0.length : Int) == (l1.length : Int)) = false := beq_eq_false_iff_ne.mpr c3
    have c3b1 : ((l0.length : Int) != (l1.length : Int)) = true := bne_iff_ne.mpr c3
    have c3b2 : (l0.length == l1.length) = false := by first | simpa using c3 | (simp at c3 ⊢; omega)
    obtain rfl := Option.some.inj H
    go_enter Try.func42, Try.ntmps42
    go_wp2
    repeat (go_quiet (fail); try go_wp2)
    go_ret
    exact ⟨zR, zD⟩
  rw [if_pos c3] at H
  have c3b0 : ((l0.length : Int) == (l1.length : Int)) = true := beq_iff_eq.mpr c3
  have c3b1 : ((l0.length : Int) != (l1.length : Int)) = false := bne_eq_false_iff_eq.mpr c3
  have c3b2 : (l0.length == l1.length) = true := by first | simpa using c3 | (simp at c3 ⊢; omega)
  clear c3
  have H' := zK H
  clear H
  go_enter Try.func42, Try.ntmps42
  go_wp2
  repeat (go_quiet (fail); try go_wp2)
  go_loopg [5] k (fun kq v5 w' => ∃ (x5_1 : Int), v5 = .int .i64 x5_1 ∧ Aside0 (laws_eqIntS.l0 kq l0 l1 x5_1 = some r) ∧ Aside0 (kq ≤ k) ∧ Drawn0 w w')
  case atStart => exact ⟨(0), zR, H', ⟨Nat.le_refl _⟩, zD⟩
  clear H'
  try clear c1
  try clear p2
  try clear c3
  try clear c3b0
  try clear c3b1
  try clear c3b2
  obtain ⟨x5_1, rfl, HA, HK1, ⟨m1, rfl⟩⟩ := hrel
  rcases gk with _ | k1
  · exact absurd HA.out (by simp [laws_eqIntS.l0])
  have H := HA.out
  clear HA
  simp only [laws_eqIntS.l0] at H
  by_cases c4 : x5_1 < (l0.length : Int)
  rotate_left
  · rw [if_neg c4] at H
    have c4b0 : decide (x5_1 < (l0.length : Int)) = false := decide_eq_false c4
    clear c4
    obtain rfl := Option.some.inj H
    go_wp2
    repeat (go_quiet (fail); try go_wp2)
    go_ret
    exact ⟨zR, zD⟩
  rw [if_pos c4] at H
  have c4b0 : decide (x5_1 < (l0.length : Int)) = true := decide_eq_true c4
  clear c4
  by_cases c5 : 0 ≤ x5_1
  rotate_left
  · rw [if_neg c5] at H
    exact absurd H (by simp)
  rw [if_pos c5] at H
  have c5b0 : decide (0 ≤ x5_1) = true := decide_eq_true c5
  clear c5
  by_cases c6 : x5_1 < (l1.length : Int)
  rotate_left
  · rw [if_neg c6] at H
    exact absurd H (by simp)
  rw [if_pos c6] at H
  have c6b0 : decide (x5_1 < (l1.length : Int)) = true := decide_eq_true c6
  clear c6
  by_cases c7 : (rd l0 x5_1) = (rd l1 x5_1)
  rotate_left
  · rw [if_neg c7] at H
    have c7b0 : ((rd l0 x5_1) == (rd l1 x5_1)) = false := beq_eq_false_iff_ne.mpr c7
    have c7b1 : ((rd l0 x5_1) != (rd l1 x5_1)) = true := bne_iff_ne.mpr c7
    obtain rfl := Option.some.inj H
    have p329 : 0 ≤ (x5_1 : Int) := of_decide_eq_true zA
    have q329 : x5_1 < (l0.length : Int) := of_decide_eq_true zA
    obtain ⟨ad329, e329, hx329_0⟩ := Kd.at_int HR0.out x5_1 p329 q329
    cases e329
    replace p329 := eq_true p329
    replace q329 := eq_true q329
    have p330 : 0 ≤ (x5_1 : Int) := of_decide_eq_true zA
    have q330 : x5_1 < (l1.length : Int) := of_decide_eq_true zA
    obtain ⟨ad330, e330, hx330_0⟩ := Kd.at_int HR1.out x5_1 p330 q330
    cases e330
    replace p330 := eq_true p330
    replace q330 := eq_true q330
    go_wp2
    repeat (go_quiet (fail); try go_wp2)
    go_ret
    exact ⟨zR, zD⟩
  rw [if_pos c7] at H
  have c7b0 : ((rd l0 x5_1) == (rd l1 x5_1)) = true := beq_iff_eq.mpr c7
  have c7b1 : ((rd l0 x5_1) != (rd l1 x5_1)) = false := bne_eq_false_iff_eq.mpr c7
  clear c7
  have H' := zK H
  clear H
  have p329 : 0 ≤ (x5_1 : Int) := of_decide_eq_true zA
  have q329 : x5_1 < (l0.length : Int) := of_decide_eq_true zA
  obtain ⟨ad329, e329, hx329_0⟩ := Kd.at_int HR0.out x5_1 p329 q329
  cases e329
  replace p329 := eq_true p329
  replace q329 := eq_true q329
  have p330 : 0 ≤ (x5_1 : Int) := of_decide_eq_true zA
  have q330 : x5_1 < (l1.length : Int) := of_decide_eq_true zA
  obtain ⟨ad330, e330, hx330_0⟩ := Kd.at_int HR1.out x5_1 p330 q330
  cases e330
  replace p330 := eq_true p330
  replace q330 := eq_true q330
  go_wp2
  repeat (go_quiet (fail); try go_wp2)
  go_roundg k1
  case measure => have := HK1.out; omega
  case rel => exact ⟨(wrap64 (x5_1 + 1)), zR, H', ⟨by have := HK1.out; omega⟩, zD⟩

/-! ### laws_eqFix: function 155 -/
def laws_eqFix.f (k : Nat) (a0_0 : Int) (l0_1 : List Int) (a1_0 : Int) (l1_1 : List Int) : Option (Bool) := if a0_0 = a1_0 then ((laws_eqIntS.f k l0_1 l1_1).bind fun t333 => (if t333 = true then (some true) else (some false))) else (some false)
theorem laws_eqFix.mono : ∀ a0 a1 a2 a3 k, LeO (laws_eqFix.f k a0 a1 a2 a3) (laws_eqFix.f (k + 1) a0 a1 a2 a3) := by
  intro a0 a1 a2 a3 k
  unfold laws_eqFix.f
  repeat' first
      | (with_reducible exact laws_eqIntS.mono _ _ _)
      | (with_reducible exact LeO.refl _)
      | (with_reducible exact LeO.none _)
      | (with_reducible refine LeO.ite ?_ ?_)
      | (with_reducible refine LeO.bind ?_ (fun _ => ?_))
      | exact laws_eqIntS.mono _ _ _
      | exact LeO.none _
      | refine LeO.ite ?_ ?_
      | refine LeO.bind ?_ (fun _ => ?_)
set_option maxHeartbeats 8000000 in
set_option maxRecDepth 100000 in
theorem laws_eqFix.calls (k : Nat) (a0_0 : Int) (A0_1 : Option Addr) (c0_1 : Nat) (l0_1 : List Int) (a1_0 : Int) (A1_1 : Option Addr) (c1_1 : Nat) (l1_1 : List Int) (r : Bool) (w : World) (hr0_1 : Kd.C (Kd.int .i64) w A0_1 l0_1.length l0_1) (hc0_1 : l0_1.length ≤ c0_1) (hr1_1 : Kd.C (Kd.int .i64) w A1_1 l1_1.length l1_1) (hc1_1 : l1_1.length ≤ c1_1) (h : laws_eqFix.f k a0_0 l0_1 a1_0 l1_1 = some r) :
    Calls Try.prog 155 #[.agg #[.int .i64 a0_0, .slice A0_1 l0_1.length c0_1], .agg #[.int .i64 a1_0, .slice A1_1 l1_1.length c1_1]] w fun e w' => e = .returned (.bool r) ∧ Below w.heap.size w w' := by
  have hu125 := Try.underlying125
  have HR0_1 := zK hr0_1
  have HC0_1 := zK hc0_1
  clear hr0_1 hc0_1
  have HR1_1 := zK hr1_1
  have HC1_1 := zK hc1_1
  clear hr1_1 hc1_1
  have HB := zK (Below.refl w.heap.size w)
  have H : (if a0_0 = a1_0 then ((laws_eqIntS.f k l0_1 l1_1).bind fun t333 => (if t333 = true then (some true) else (some false))) else (some false)) = some r := h
  clear h
  by_cases c3 : a0_0 = a1_0
  rotate_left
  · rw [if_neg c3] at H
    have c3b0 : (a0_0 == a1_0) = false := beq_eq_false_iff_ne.mpr c3
    have c3b1 : (a0_0 != a1_0) = true := bne_iff_ne.mpr c3
    obtain rfl := Option.some.inj H
    go_enter Try.func155, Try.ntmps155
    go_wp2_with (first | ((with_reducible refine gate_dst (N := 2) rfl ?_); refine zJ 2 #[.int .i64 a0_0, .slice A0_1 l0_1.length c0_1] 125 ?_; intro gb331 hg w16 hbox hb; have n0_ := zK (zp zB hb); have n1_ := zK (hbox); have n2_ := zK (zI hg zB); have n3_ := zK (zI hg zB); clear HB; have HB := n0_; have BK331 := n1_; have GW331 := n2_; have GE331 := n3_; clear n0_ n1_ n2_ n3_; clear hb hbox hg) | ((with_reducible refine gate_dst (N := 3) rfl ?_); refine zJ 3 #[.int .i64 a1_0, .slice A1_1 l1_1.length c1_1] 125 ?_; intro gb332 hg w17 hbox hb; have n0_ := zK (zg (zM BK331) hb); have n1_ := zK (zp zB hb); have n2_ := zK (hbox); have n3_ := zK (zI hg zB); have n4_ := zK (zI hg zB); have n5_ := zK (zH hg (zM BK331)); have n6_ := zK (zG hg (zM BK331)); clear BK331; clear HB; have BK331 := n0_; have HB := n1_; have BK332 := n2_; have GW332 := n3_; have GE332 := n4_; have NB331_332 := n5_; have NB332_331 := n6_; clear n0_ n1_ n2_ n3_ n4_ n5_ n6_; clear hb hbox hg; have hnb18 := NB331_332.out; have hnc18 := NB332_331.out; obtain ⟨hcz19_0, hcz19_1, hfz19_0, hfz19_1⟩ := zc2 BK331; obtain ⟨hcz20_0, hcz20_1, hfz20_0, hfz20_1⟩ := zc2 BK332))
    go_ret
    exact ⟨zE, zB⟩
  rw [if_pos c3] at H
  have c3b0 : (a0_0 == a1_0) = true := beq_iff_eq.mpr c3
  have c3b1 : (a0_0 != a1_0) = false := bne_eq_false_iff_eq.mpr c3
  clear c3
  replace H := Option.bind_eq_some_iff.mp H
  obtain ⟨t333, A40, H⟩ := H
  replace H : (if t333 = true then (some true) else (some false)) = some r := H
  have A4 := zK A40
  clear A40
  by_cases c5 : t333 = true
  · subst c5
    have H1 : (some true) = some r := by rw [if_pos rfl] at H; exact H
    clear H
    have H := H1
    clear H1
    obtain rfl := Option.some.inj H
    go_enter Try.func155, Try.ntmps155
    go_wp2_with (first | ((with_reducible refine gate_dst (N := 2) rfl ?_); refine zJ 2 #[.int .i64 a0_0, .slice A0_1 l0_1.length c0_1] 125 ?_; intro gb331 hg w6 hbox hb; have n0_ := zK (zp zB hb); have n1_ := zK (hbox); have n2_ := zK (zI hg zB); have n3_ := zK (zI hg zB); clear HB; have HB := n0_; have BK331 := n1_; have GW331 := n2_; have GE331 := n3_; clear n0_ n1_ n2_ n3_; clear hb hbox hg) | ((with_reducible refine gate_dst (N := 3) rfl ?_); refine zJ 3 #[.int .i64 a1_0, .slice A1_1 l1_1.length c1_1] 125 ?_; intro gb332 hg w7 hbox hb; have n0_ := zK (zg (zM BK331) hb); have n1_ := zK (zp zB hb); have n2_ := zK (hbox); have n3_ := zK (zI hg zB); have n4_ := zK (zI hg zB); have n5_ := zK (zH hg (zM BK331)); have n6_ := zK (zG hg (zM BK331)); clear BK331; clear HB; have BK331 := n0_; have HB := n1_; have BK332 := n2_; have GW332 := n3_; have GE332 := n4_; have NB331_332 := n5_; have NB332_331 := n6_; clear n0_ n1_ n2_ n3_ n4_ n5_ n6_; clear hb hbox hg; have hnb8 := NB331_332.out; have hnc8 := NB332_331.out; obtain ⟨hcz9_0, hcz9_1, hfz9_0, hfz9_1⟩ := zc2 BK331; obtain ⟨hcz10_0, hcz10_1, hfz10_0, hfz10_1⟩ := zc2 BK332) | ((with_reducible refine gate_callee (f := 42) rfl ?_); refine zF 14 Try.func42 #[.slice A0_1 l0_1.length c0_1, .slice A1_1 l1_1.length c1_1] rfl zL ?_; (with_reducible refine (laws_eqIntS.calls k _ _ l0_1 _ _ l1_1 true _ ?side1 ?side2 ?side3 ?side4 A4.out).mono ?_); (case side1 => exact zC (Kd.C_below HR0_1.out HB.out)); (case side2 => exact HC0_1.out); (case side3 => exact zC (Kd.C_below HR1_1.out HB.out)); (case side4 => exact HC1_1.out); rintro e w' ⟨rfl, ⟨nd, rfl⟩⟩; refine ⟨_, rfl, ?_⟩))
    go_ret
    exact ⟨zE, zB⟩
  replace c5 := Bool.eq_false_iff.mpr c5
  subst c5
  have H1 : (some false) = some r := by rw [if_neg (show ¬ (false = true) by decide)] at H; exact H
  clear H
  have H := H1
  clear H1
  obtain rfl := Option.some.inj H
  go_enter Try.func155, Try.ntmps155
  go_wp2_with (first | ((with_reducible refine gate_dst (N := 2) rfl ?_); refine zJ 2 #[.int .i64 a0_0, .slice A0_1 l0_1.length c0_1] 125 ?_; intro gb331 hg w11 hbox hb; have n0_ := zK (zp zB hb); have n1_ := zK (hbox); have n2_ := zK (zI hg zB); have n3_ := zK (zI hg zB); clear HB; have HB := n0_; have BK331 := n1_; have GW331 := n2_; have GE331 := n3_; clear n0_ n1_ n2_ n3_; clear hb hbox hg) | ((with_reducible refine gate_dst (N := 3) rfl ?_); refine zJ 3 #[.int .i64 a1_0, .slice A1_1 l1_1.length c1_1] 125 ?_; intro gb332 hg w12 hbox hb; have n0_ := zK (zg (zM BK331) hb); have n1_ := zK (zp zB hb); have n2_ := zK (hbox); have n3_ := zK (zI hg zB); have n4_ := zK (zI hg zB); have n5_ := zK (zH hg (zM BK331)); have n6_ := zK (zG hg (zM BK331)); clear BK331; clear HB; have BK331 := n0_; have HB := n1_; have BK332 := n2_; have GW332 := n3_; have GE332 := n4_; have NB331_332 := n5_; have NB332_331 := n6_; clear n0_ n1_ n2_ n3_ n4_ n5_ n6_; clear hb hbox hg; have hnb13 := NB331_332.out; have hnc13 := NB332_331.out; obtain ⟨hcz14_0, hcz14_1, hfz14_0, hfz14_1⟩ := zc2 BK331; obtain ⟨hcz15_0, hcz15_1, hfz15_0, hfz15_1⟩ := zc2 BK332) | ((with_reducible refine gate_callee (f := 42) rfl ?_); refine zF 14 Try.func42 #[.slice A0_1 l0_1.length c0_1, .slice A1_1 l1_1.length c1_1] rfl zL ?_; (with_reducible refine (laws_eqIntS.calls k _ _ l0_1 _ _ l1_1 false _ ?side1 ?side2 ?side3 ?side4 A4.out).mono ?_); (case side1 => exact zC (Kd.C_below HR0_1.out HB.out)); (case side2 => exact HC0_1.out); (case side3 => exact zC (Kd.C_below HR1_1.out HB.out)); (case side4 => exact HC1_1.out); rintro e w' ⟨rfl, ⟨nd, rfl⟩⟩; refine ⟨_, rfl, ?_⟩))
  go_ret
  exact ⟨zE, zB⟩

/-! ### laws_eqFixS: function 94 -/
def laws_eqFixS.l0 : Nat → List (S125) → List (S125) → Int → Option (Bool)
  | 0, _, _, _ => none
  | k + 1, x0, x1, x5 => if x5 < (x0.length : Int) then (if 0 ≤ x5 then (if x5 < (x1.length : Int) then ((laws_eqFix.f k ((rd_T125 x0 x5).f0) ((rd_T125 x0 x5).f1) ((rd_T125 x1 x5).f0) ((rd_T125 x1 x5).f1)).bind fun t336 => (if t336 = true then (laws_eqFixS.l0 k x0 x1 (wrap64 (x5 + 1))) else (some false))) else (none)) else (none)) else (some true)
def laws_eqFixS.f (k : Nat) (l0 : List (S125)) (l1 : List (S125)) : Option (Bool) := if (l0.length : Int) = (l1.length : Int) then (laws_eqFixS.l0 k l0 l1 0) else (some false)
theorem laws_eqFixS.mono_l : ∀ k, (∀ y0 y1 y2, LeO (laws_eqFixS.l0 k y0 y1 y2) (laws_eqFixS.l0 (k + 1) y0 y1 y2))
  | 0 => fun _ _ _ r h => by simp [laws_eqFixS.l0] at h
  | k + 1 => by
    have ih0 := laws_eqFixS.mono_l k
    · intro y0 y1 y2
      unfold laws_eqFixS.l0
      repeat' first
      | (with_reducible exact ih0 _ _ _)
      | (with_reducible exact laws_eqFix.mono _ _ _ _ _)
      | (with_reducible exact LeO.refl _)
      | (with_reducible exact LeO.none _)
      | (with_reducible refine LeO.ite ?_ ?_)
      | (with_reducible refine LeO.bind ?_ (fun _ => ?_))
      | exact ih0 _ _ _
      | exact laws_eqFix.mono _ _ _ _ _
      | exact LeO.none _
      | refine LeO.ite ?_ ?_
      | refine LeO.bind ?_ (fun _ => ?_)
theorem laws_eqFixS.mono : ∀ a0 a1 k, LeO (laws_eqFixS.f k a0 a1) (laws_eqFixS.f (k + 1) a0 a1) := by
  intro a0 a1 k
  have ih0 := laws_eqFixS.mono_l k
  unfold laws_eqFixS.f
  repeat' first
      | (with_reducible exact ih0 _ _ _)
      | (with_reducible exact laws_eqFix.mono _ _ _ _ _)
      | (with_reducible exact LeO.refl _)
      | (with_reducible exact LeO.none _)
      | (with_reducible refine LeO.ite ?_ ?_)
      | (with_reducible refine LeO.bind ?_ (fun _ => ?_))
      | exact ih0 _ _ _
      | exact laws_eqFix.mono _ _ _ _ _
      | exact LeO.none _
      | refine LeO.ite ?_ ?_
      | refine LeO.bind ?_ (fun _ => ?_)
def laws_eqFixS.T6 : Bool × List (List Nat × List Nat) := (true, [([], []), ([], []), ([0, 1], [0, 1]), ([2], [2]), ([], []), ([], []), ([4, 5], [4, 5]), ([6], [6]), ([3, 7], [3, 7]), ([8], [8])])
def laws_eqFixS.B6 : List Nat := [0, 0, 3, 7, 0, 0, 48, 112, 255, 511]
theorem laws_eqFixS.tab6 : rtab .any (opsOf Try.f94 6) = laws_eqFixS.T6 := by kernel_rfl
theorem laws_eqFixS.bits6 : waitsOk laws_eqFixS.T6.2 laws_eqFixS.B6 = true := by kernel_rfl
set_option maxHeartbeats 8000000 in
set_option maxRecDepth 100000 in
theorem laws_eqFixS.calls (k : Nat) (A0 : Option Addr) (c0 : Nat) (l0 : List (S125)) (A1 : Option Addr) (c1 : Nat) (l1 : List (S125)) (r : Bool) (w : World) (hr0 : Kd.C k125 w A0 l0.length l0) (hc0 : l0.length ≤ c0) (hr1 : Kd.C k125 w A1 l1.length l1) (hc1 : l1.length ≤ c1) (h : laws_eqFixS.f k l0 l1 = some r) :
    Calls Try.prog 94 #[.slice A0 l0.length c0, .slice A1 l1.length c1] w fun e w' => e = .returned (.bool r) ∧ Below w.heap.size w w' := by
  have hu125 := Try.underlying125
  have HR0 := zK hr0
  have HC0 := zK hc0
  clear hr0 hc0
  have HR1 := zK hr1
  have HC1 := zK hc1
  clear hr1 hc1
  have HB := zK (Below.refl w.heap.size w)
  have H : (if (l0.length : Int) = (l1.length : Int) then (laws_eqFixS.l0 k l0 l1 0) else (some false)) = some r := h
  clear h
  by_cases c3 : (l0.length : Int) = (l1.length : Int)
  rotate_left
  · rw [if_neg c3] at H
    have c3b0 : ((l0.length : Int) == (l1.length : Int)) = false := beq_eq_false_iff_ne.mpr c3
    have c3b1 : ((l0.length : Int) != (l1.length : Int)) = true := bne_iff_ne.mpr c3
    have c3b2 : (l0.length == l1.length) = false := by first | simpa using c3 | (simp at c3 ⊢; omega)
    obtain rfl := Option.some.inj H
    go_enter Try.func94, Try.ntmps94
    go_wp2
    go_ret
    exact ⟨zE, zB⟩
  rw [if_pos c3] at H
  have c3b0 : ((l0.length : Int) == (l1.length : Int)) = true := beq_iff_eq.mpr c3
  have c3b1 : ((l0.length : Int) != (l1.length : Int)) = false := bne_eq_false_iff_eq.mpr c3
  have c3b2 : (l0.length == l1.length) = true := by first | simpa using c3 | (simp at c3 ⊢; omega)
  clear c3
  have H' := zK H
  clear H
  go_enter Try.func94, Try.ntmps94
  go_wp2
  go_loopg [5] k (fun kq v5 w' => ∃ (x5_1 : Int), v5 = .int .i64 x5_1 ∧ Aside0 (laws_eqFixS.l0 kq l0 l1 x5_1 = some r) ∧ Aside0 (kq ≤ k) ∧ Aside0 (Below w.heap.size w w'))
  case atStart => exact ⟨(0), zR, H', ⟨Nat.le_refl _⟩, ⟨zB⟩⟩
  clear H'
  try clear c1
  try clear p2
  try clear c3
  try clear c3b0
  try clear c3b1
  try clear c3b2
  obtain ⟨x5_1, rfl, HA, HK1, HB⟩ := hrel
  rcases gk with _ | k1
  · exact absurd HA.out (by simp [laws_eqFixS.l0])
  have H := HA.out
  clear HA
  simp only [laws_eqFixS.l0] at H
  by_cases c4 : x5_1 < (l0.length : Int)
  rotate_left
  · rw [if_neg c4] at H
    have c4b0 : decide (x5_1 < (l0.length : Int)) = false := decide_eq_false c4
    clear c4
    obtain rfl := Option.some.inj H
    go_wp2
    go_ret
    exact ⟨zE, zB⟩
  rw [if_pos c4] at H
  have c4b0 : decide (x5_1 < (l0.length : Int)) = true := decide_eq_true c4
  clear c4
  by_cases c5 : 0 ≤ x5_1
  rotate_left
  · rw [if_neg c5] at H
    exact absurd H (by simp)
  rw [if_pos c5] at H
  have c5b0 : decide (0 ≤ x5_1) = true := decide_eq_true c5
  clear c5
  by_cases c6 : x5_1 < (l1.length : Int)
  rotate_left
  · rw [if_neg c6] at H
    exact absurd H (by simp)
  rw [if_pos c6] at H
  have c6b0 : decide (x5_1 < (l1.length : Int)) = true := decide_eq_true c6
  clear c6
  replace H := Option.bind_eq_some_iff.mp H
  obtain ⟨t336, A70, H⟩ := H
  replace H : (if t336 = true then (laws_eqFixS.l0 k1 l0 l1 (wrap64 (x5_1 + 1))) else (some false)) = some r := H
  have A7 := zK A70
  clear A70
  by_cases c8 : t336 = true
  rotate_left
  · replace c8 := Bool.eq_false_iff.mpr c8
    subst c8
    have H1 : (some false) = some r := by rw [if_neg (show ¬ (false = true) by decide)] at H; exact H
    clear H
    have H := H1
    clear H1
    obtain rfl := Option.some.inj H
    try go_wp2
    have n0_ := zK (ze HB.out)
    clear HB
    have HB := n0_
    clear n0_
    have p334 : 0 ≤ (x5_1 : Int) := of_decide_eq_true zA
    have q334 : x5_1 < (l0.length : Int) := of_decide_eq_true zA
    obtain ⟨ad334, A334_1, c334_1, e334, hx334_0, hx334_1, hl334_1, hi334_1⟩ := at_T125 HR0.out x5_1 p334 q334
    have hw334_1 := hx334_1
    have hw334_0 := hx334_0
    cases e334
    (try replace hx334_0 := zX HB hx334_0)
    (try replace hx334_1 := zX HB hx334_1)
    have HR334_1 := zK hi334_1
    have HC334_1 := zK hl334_1
    clear hi334_1 hl334_1
    replace p334 := eq_true p334
    replace q334 := eq_true q334
    have p335 : 0 ≤ (x5_1 : Int) := of_decide_eq_true zA
    have q335 : x5_1 < (l1.length : Int) := of_decide_eq_true zA
    obtain ⟨ad335, A335_1, c335_1, e335, hx335_0, hx335_1, hl335_1, hi335_1⟩ := at_T125 HR1.out x5_1 p335 q335
    have hw335_1 := hx335_1
    have hw335_0 := hx335_0
    cases e335
    (try replace hx335_0 := zX HB hx335_0)
    (try replace hx335_1 := zX HB hx335_1)
    have HR335_1 := zK hi335_1
    have HC335_1 := zK hl335_1
    clear hi335_1 hl335_1
    replace p335 := eq_true p335
    replace q335 := eq_true q335
    refine start_ (n := 10) (S := fun w' => w'.cell? (ad334.add ((x5_1).toNat * 2)) = some (.int .i64 ((rd_T125 l0 x5_1).f0)) ∧ w'.cell? ⟨(ad334.add ((x5_1).toNat * 2)).block, (ad334.add ((x5_1).toNat * 2)).off + 1, none⟩ = some (.slice A334_1 ((rd_T125 l0 x5_1).f1).length c334_1) ∧ w'.cell? (ad335.add ((x5_1).toNat * 2)) = some (.int .i64 ((rd_T125 l1 x5_1).f0)) ∧ w'.cell? ⟨(ad335.add ((x5_1).toNat * 2)).block, (ad335.add ((x5_1).toNat * 2)).off + 1, none⟩ = some (.slice A335_1 ((rd_T125 l1 x5_1).f1).length c335_1)) (ds := []) (bl 10 0) (by kernel_rfl) rfl (by kernel_rfl) ⟨(zX HB hw334_0), (zX HB hw334_1), (zX HB hw335_0), (zX HB hw335_1)⟩ (fun hHeld => ?_); refine with_tabW laws_eqFixS.tab6 laws_eqFixS.bits6 (fun HT_ HW_ => ?_)
    generalize wr.drew = w11 at HB HR334_1 HR335_1 hx334_0 hx334_1 hx335_0 hx335_1 hHeld ⊢
    refine zP 0 17 (bl 10 1) HT_ ?_
    refine zP 1 18 (bl 10 3) HT_ ?_
    refine zP 2 19 (bl 10 7) HT_ ?_
    refine zP 4 21 (bl 10 23) HT_ ?_
    refine zP 5 22 (bl 10 55) HT_ ?_
    refine zP 6 23 (bl 10 119) HT_ ?_
    refine zT 3 20 (bl 10 127) rfl rfl HT_ HW_ hHeld (by rintro w' ⟨s0, s1, s2, s3⟩; go_simp; with_reducible rfl) ?_
    refine zT 7 24 (bl 10 255) rfl rfl HT_ HW_ hHeld (by rintro w' ⟨s0, s1, s2, s3⟩; go_simp; with_reducible rfl) ?_
    refine one_ (i := 8) (N := some 25) (bl 10 511) rfl rfl (one_of HT_.out (by kernel_rfl)) (by decide) (fun K hK => ?_)
    refine goes_ Try.func155 (by kernel_rfl) rfl #[.agg #[.int .i64 ((rd_T125 l0 x5_1).f0), .slice A334_1 ((rd_T125 l0 x5_1).f1).length c334_1], .agg #[.int .i64 ((rd_T125 l1 x5_1).f0), .slice A335_1 ((rd_T125 l1 x5_1).f1).length c335_1]] (by rfl) rfl rfl zL ?_
    with_reducible refine (laws_eqFix.calls k1 ((rd_T125 l0 x5_1).f0) _ _ ((rd_T125 l0 x5_1).f1) ((rd_T125 l1 x5_1).f0) _ _ ((rd_T125 l1 x5_1).f1) false _ ?side1 ?side2 ?side3 ?side4 A7.out).mono ?_
    (case side1 => exact zC (Kd.C_below HR334_1.out HB.out))
    (case side2 => exact HC334_1.out)
    (case side3 => exact zC (Kd.C_below HR335_1.out HB.out))
    (case side4 => exact HC335_1.out)
    rintro e w12 ⟨rfl, hb⟩
    refine ⟨_, rfl, ?_⟩
    have n0_ := zK (zp zB hb)
    clear HB
    have HB := n0_
    clear n0_
    (try clear hb)
    (try clear hb2)
    (try clear hk)
    (try clear hi)
    refine hK.out _ _ ⟨(zX HB hw334_0), (zX HB hw334_1), (zX HB hw335_0), (zX HB hw335_1)⟩ (fun hHeld => ?_)
    clear hK K
    refine zU 25 ?_
    refine zP 9 26 (bl 10 1023) HT_ ?_
    refine done_ (done_of HT_.out (by kernel_rfl)) ?_
    try go_wp2
    go_ret
    exact ⟨zE, zB⟩
  subst c8
  have H1 : (laws_eqFixS.l0 k1 l0 l1 (wrap64 (x5_1 + 1))) = some r := by rw [if_pos rfl] at H; exact H
  clear H
  have H := H1
  clear H1
  have H' := zK H
  clear H
  try go_wp2
  have n0_ := zK (ze HB.out)
  clear HB
  have HB := n0_
  clear n0_
  have p334 : 0 ≤ (x5_1 : Int) := of_decide_eq_true zA
  have q334 : x5_1 < (l0.length : Int) := of_decide_eq_true zA
  obtain ⟨ad334, A334_1, c334_1, e334, hx334_0, hx334_1, hl334_1, hi334_1⟩ := at_T125 HR0.out x5_1 p334 q334
  have hw334_1 := hx334_1
  have hw334_0 := hx334_0
  cases e334
  (try replace hx334_0 := zX HB hx334_0)
  (try replace hx334_1 := zX HB hx334_1)
  have HR334_1 := zK hi334_1
  have HC334_1 := zK hl334_1
  clear hi334_1 hl334_1
  replace p334 := eq_true p334
  replace q334 := eq_true q334
  have p335 : 0 ≤ (x5_1 : Int) := of_decide_eq_true zA
  have q335 : x5_1 < (l1.length : Int) := of_decide_eq_true zA
  obtain ⟨ad335, A335_1, c335_1, e335, hx335_0, hx335_1, hl335_1, hi335_1⟩ := at_T125 HR1.out x5_1 p335 q335
  have hw335_1 := hx335_1
  have hw335_0 := hx335_0
  cases e335
  (try replace hx335_0 := zX HB hx335_0)
  (try replace hx335_1 := zX HB hx335_1)
  have HR335_1 := zK hi335_1
  have HC335_1 := zK hl335_1
  clear hi335_1 hl335_1
  replace p335 := eq_true p335
  replace q335 := eq_true q335
  refine start_ (n := 10) (S := fun w' => w'.cell? (ad334.add ((x5_1).toNat * 2)) = some (.int .i64 ((rd_T125 l0 x5_1).f0)) ∧ w'.cell? ⟨(ad334.add ((x5_1).toNat * 2)).block, (ad334.add ((x5_1).toNat * 2)).off + 1, none⟩ = some (.slice A334_1 ((rd_T125 l0 x5_1).f1).length c334_1) ∧ w'.cell? (ad335.add ((x5_1).toNat * 2)) = some (.int .i64 ((rd_T125 l1 x5_1).f0)) ∧ w'.cell? ⟨(ad335.add ((x5_1).toNat * 2)).block, (ad335.add ((x5_1).toNat * 2)).off + 1, none⟩ = some (.slice A335_1 ((rd_T125 l1 x5_1).f1).length c335_1)) (ds := []) (bl 10 0) (by kernel_rfl) rfl (by kernel_rfl) ⟨(zX HB hw334_0), (zX HB hw334_1), (zX HB hw335_0), (zX HB hw335_1)⟩ (fun hHeld => ?_); refine with_tabW laws_eqFixS.tab6 laws_eqFixS.bits6 (fun HT_ HW_ => ?_)
  generalize wr.drew = w9 at HB HR334_1 HR335_1 hx334_0 hx334_1 hx335_0 hx335_1 hHeld ⊢
  refine zP 0 17 (bl 10 1) HT_ ?_
  refine zP 1 18 (bl 10 3) HT_ ?_
  refine zP 2 19 (bl 10 7) HT_ ?_
  refine zP 4 21 (bl 10 23) HT_ ?_
  refine zP 5 22 (bl 10 55) HT_ ?_
  refine zP 6 23 (bl 10 119) HT_ ?_
  refine zT 3 20 (bl 10 127) rfl rfl HT_ HW_ hHeld (by rintro w' ⟨s0, s1, s2, s3⟩; go_simp; with_reducible rfl) ?_
  refine zT 7 24 (bl 10 255) rfl rfl HT_ HW_ hHeld (by rintro w' ⟨s0, s1, s2, s3⟩; go_simp; with_reducible rfl) ?_
  refine one_ (i := 8) (N := some 25) (bl 10 511) rfl rfl (one_of HT_.out (by kernel_rfl)) (by decide) (fun K hK => ?_)
  refine goes_ Try.func155 (by kernel_rfl) rfl #[.agg #[.int .i64 ((rd_T125 l0 x5_1).f0), .slice A334_1 ((rd_T125 l0 x5_1).f1).length c334_1], .agg #[.int .i64 ((rd_T125 l1 x5_1).f0), .slice A335_1 ((rd_T125 l1 x5_1).f1).length c335_1]] (by rfl) rfl rfl zL ?_
  with_reducible refine (laws_eqFix.calls k1 ((rd_T125 l0 x5_1).f0) _ _ ((rd_T125 l0 x5_1).f1) ((rd_T125 l1 x5_1).f0) _ _ ((rd_T125 l1 x5_1).f1) true _ ?side1 ?side2 ?side3 ?side4 A7.out).mono ?_
  (case side1 => exact zC (Kd.C_below HR334_1.out HB.out))
  (case side2 => exact HC334_1.out)
  (case side3 => exact zC (Kd.C_below HR335_1.out HB.out))
  (case side4 => exact HC335_1.out)
  rintro e w10 ⟨rfl, hb⟩
  refine ⟨_, rfl, ?_⟩
  have n0_ := zK (zp zB hb)
  clear HB
  have HB := n0_
  clear n0_
  (try clear hb)
  (try clear hb2)
  (try clear hk)
  (try clear hi)
  refine hK.out _ _ ⟨(zX HB hw334_0), (zX HB hw334_1), (zX HB hw335_0), (zX HB hw335_1)⟩ (fun hHeld => ?_)
  clear hK K
  refine zU 25 ?_
  refine zP 9 26 (bl 10 1023) HT_ ?_
  refine done_ (done_of HT_.out (by kernel_rfl)) ?_
  try go_wp2
  go_roundg k1
  case measure => have := HK1.out; omega
  case rel => exact ⟨(wrap64 (x5_1 + 1)), zR, H', ⟨by have := HK1.out; omega⟩, ⟨zB⟩⟩

/-! ### laws_eqAccess: function 195 -/
def laws_eqAccess.f (k : Nat) (a0_0 : Int) (a0_1 : Int) (l0_2 : List Int) (a1_0 : Int) (a1_1 : Int) (l1_2 : List Int) : Option (Bool) := if a0_0 = a1_0 then (if a0_1 = a1_1 then ((laws_eqIntS.f k l0_2 l1_2).bind fun t339 => (if t339 = true then (some true) else (some false))) else (some false)) else (some false)
theorem laws_eqAccess.mono : ∀ a0 a1 a2 a3 a4 a5 k, LeO (laws_eqAccess.f k a0 a1 a2 a3 a4 a5) (laws_eqAccess.f (k + 1) a0 a1 a2 a3 a4 a5) := by
  intro a0 a1 a2 a3 a4 a5 k
  unfold laws_eqAccess.f
  repeat' first
      | (with_reducible exact laws_eqIntS.mono _ _ _)
      | (with_reducible exact LeO.refl _)
      | (with_reducible exact LeO.none _)
      | (with_reducible refine LeO.ite ?_ ?_)
      | (with_reducible refine LeO.bind ?_ (fun _ => ?_))
      | exact laws_eqIntS.mono _ _ _
      | exact LeO.none _
      | refine LeO.ite ?_ ?_
      | refine LeO.bind ?_ (fun _ => ?_)
set_option maxHeartbeats 8000000 in
set_option maxRecDepth 100000 in
theorem laws_eqAccess.calls (k : Nat) (a0_0 : Int) (a0_1 : Int) (A0_2 : Option Addr) (c0_2 : Nat) (l0_2 : List Int) (a1_0 : Int) (a1_1 : Int) (A1_2 : Option Addr) (c1_2 : Nat) (l1_2 : List Int) (r : Bool) (w : World) (hr0_2 : Kd.C (Kd.int .i64) w A0_2 l0_2.length l0_2) (hc0_2 : l0_2.length ≤ c0_2) (hr1_2 : Kd.C (Kd.int .i64) w A1_2 l1_2.length l1_2) (hc1_2 : l1_2.length ≤ c1_2) (h : laws_eqAccess.f k a0_0 a0_1 l0_2 a1_0 a1_1 l1_2 = some r) :
    Calls Try.prog 195 #[.agg #[.int .i64 a0_0, .int .i64 a0_1, .slice A0_2 l0_2.length c0_2], .agg #[.int .i64 a1_0, .int .i64 a1_1, .slice A1_2 l1_2.length c1_2]] w fun e w' => e = .returned (.bool r) ∧ Below w.heap.size w w' := by
  have hu129 := Try.underlying129
  have HR0_2 := zK hr0_2
  have HC0_2 := zK hc0_2
  clear hr0_2 hc0_2
  have HR1_2 := zK hr1_2
  have HC1_2 := zK hc1_2
  clear hr1_2 hc1_2
  have HB := zK (Below.refl w.heap.size w)
  have H : (if a0_0 = a1_0 then (if a0_1 = a1_1 then ((laws_eqIntS.f k l0_2 l1_2).bind fun t339 => (if t339 = true then (some true) else (some false))) else (some false)) else (some false)) = some r := h
  clear h
  by_cases c3 : a0_0 = a1_0
  rotate_left
  · rw [if_neg c3] at H
    have c3b0 : (a0_0 == a1_0) = false := beq_eq_false_iff_ne.mpr c3
    have c3b1 : (a0_0 != a1_0) = true := bne_iff_ne.mpr c3
    obtain rfl := Option.some.inj H
    go_enter Try.func195, Try.ntmps195
    go_wp2_with (first | ((with_reducible refine gate_dst (N := 2) rfl ?_); refine zJ 2 #[.int .i64 a0_0, .int .i64 a0_1, .slice A0_2 l0_2.length c0_2] 129 ?_; intro gb337 hg w22 hbox hb; have n0_ := zK (zp zB hb); have n1_ := zK (hbox); have n2_ := zK (zI hg zB); have n3_ := zK (zI hg zB); clear HB; have HB := n0_; have BK337 := n1_; have GW337 := n2_; have GE337 := n3_; clear n0_ n1_ n2_ n3_; clear hb hbox hg) | ((with_reducible refine gate_dst (N := 3) rfl ?_); refine zJ 3 #[.int .i64 a1_0, .int .i64 a1_1, .slice A1_2 l1_2.length c1_2] 129 ?_; intro gb338 hg w23 hbox hb; have n0_ := zK (zg (zM BK337) hb); have n1_ := zK (zp zB hb); have n2_ := zK (hbox); have n3_ := zK (zI hg zB); have n4_ := zK (zI hg zB); have n5_ := zK (zH hg (zM BK337)); have n6_ := zK (zG hg (zM BK337)); clear BK337; clear HB; have BK337 := n0_; have HB := n1_; have BK338 := n2_; have GW338 := n3_; have GE338 := n4_; have NB337_338 := n5_; have NB338_337 := n6_; clear n0_ n1_ n2_ n3_ n4_ n5_ n6_; clear hb hbox hg; have hnb24 := NB337_338.out; have hnc24 := NB338_337.out; obtain ⟨hcz25_0, hcz25_1, hcz25_2, hfz25_0, hfz25_1, hfz25_2⟩ := zc3 BK337; obtain ⟨hcz26_0, hcz26_1, hcz26_2, hfz26_0, hfz26_1, hfz26_2⟩ := zc3 BK338))
    go_ret
    exact ⟨zE, zB⟩
  rw [if_pos c3] at H
  have c3b0 : (a0_0 == a1_0) = true := beq_iff_eq.mpr c3
  have c3b1 : (a0_0 != a1_0) = false := bne_eq_false_iff_eq.mpr c3
  clear c3
  by_cases c4 : a0_1 = a1_1
  rotate_left
  · rw [if_neg c4] at H
    have c4b0 : (a0_1 == a1_1) = false := beq_eq_false_iff_ne.mpr c4
    have c4b1 : (a0_1 != a1_1) = true := bne_iff_ne.mpr c4
    obtain rfl := Option.some.inj H
    go_enter Try.func195, Try.ntmps195
    go_wp2_with (first | ((with_reducible refine gate_dst (N := 2) rfl ?_); refine zJ 2 #[.int .i64 a0_0, .int .i64 a0_1, .slice A0_2 l0_2.length c0_2] 129 ?_; intro gb337 hg w17 hbox hb; have n0_ := zK (zp zB hb); have n1_ := zK (hbox); have n2_ := zK (zI hg zB); have n3_ := zK (zI hg zB); clear HB; have HB := n0_; have BK337 := n1_; have GW337 := n2_; have GE337 := n3_; clear n0_ n1_ n2_ n3_; clear hb hbox hg) | ((with_reducible refine gate_dst (N := 3) rfl ?_); refine zJ 3 #[.int .i64 a1_0, .int .i64 a1_1, .slice A1_2 l1_2.length c1_2] 129 ?_; intro gb338 hg w18 hbox hb; have n0_ := zK (zg (zM BK337) hb); have n1_ := zK (zp zB hb); have n2_ := zK (hbox); have n3_ := zK (zI hg zB); have n4_ := zK (zI hg zB); have n5_ := zK (zH hg (zM BK337)); have n6_ := zK (zG hg (zM BK337)); clear BK337; clear HB; have BK337 := n0_; have HB := n1_; have BK338 := n2_; have GW338 := n3_; have GE338 := n4_; have NB337_338 := n5_; have NB338_337 := n6_; clear n0_ n1_ n2_ n3_ n4_ n5_ n6_; clear hb hbox hg; have hnb19 := NB337_338.out; have hnc19 := NB338_337.out; obtain ⟨hcz20_0, hcz20_1, hcz20_2, hfz20_0, hfz20_1, hfz20_2⟩ := zc3 BK337; obtain ⟨hcz21_0, hcz21_1, hcz21_2, hfz21_0, hfz21_1, hfz21_2⟩ := zc3 BK338))
    go_ret
    exact ⟨zE, zB⟩
  rw [if_pos c4] at H
  have c4b0 : (a0_1 == a1_1) = true := beq_iff_eq.mpr c4
  have c4b1 : (a0_1 != a1_1) = false := bne_eq_false_iff_eq.mpr c4
  clear c4
  replace H := Option.bind_eq_some_iff.mp H
  obtain ⟨t339, A50, H⟩ := H
  replace H : (if t339 = true then (some true) else (some false)) = some r := H
  have A5 := zK A50
  clear A50
  by_cases c6 : t339 = true
  · subst c6
    have H1 : (some true) = some r := by rw [if_pos rfl] at H; exact H
    clear H
    have H := H1
    clear H1
    obtain rfl := Option.some.inj H
    go_enter Try.func195, Try.ntmps195
    go_wp2_with (first | ((with_reducible refine gate_dst (N := 2) rfl ?_); refine zJ 2 #[.int .i64 a0_0, .int .i64 a0_1, .slice A0_2 l0_2.length c0_2] 129 ?_; intro gb337 hg w7 hbox hb; have n0_ := zK (zp zB hb); have n1_ := zK (hbox); have n2_ := zK (zI hg zB); have n3_ := zK (zI hg zB); clear HB; have HB := n0_; have BK337 := n1_; have GW337 := n2_; have GE337 := n3_; clear n0_ n1_ n2_ n3_; clear hb hbox hg) | ((with_reducible refine gate_dst (N := 3) rfl ?_); refine zJ 3 #[.int .i64 a1_0, .int .i64 a1_1, .slice A1_2 l1_2.length c1_2] 129 ?_; intro gb338 hg w8 hbox hb; have n0_ := zK (zg (zM BK337) hb); have n1_ := zK (zp zB hb); have n2_ := zK (hbox); have n3_ := zK (zI hg zB); have n4_ := zK (zI hg zB); have n5_ := zK (zH hg (zM BK337)); have n6_ := zK (zG hg (zM BK337)); clear BK337; clear HB; have BK337 := n0_; have HB := n1_; have BK338 := n2_; have GW338 := n3_; have GE338 := n4_; have NB337_338 := n5_; have NB338_337 := n6_; clear n0_ n1_ n2_ n3_ n4_ n5_ n6_; clear hb hbox hg; have hnb9 := NB337_338.out; have hnc9 := NB338_337.out; obtain ⟨hcz10_0, hcz10_1, hcz10_2, hfz10_0, hfz10_1, hfz10_2⟩ := zc3 BK337; obtain ⟨hcz11_0, hcz11_1, hcz11_2, hfz11_0, hfz11_1, hfz11_2⟩ := zc3 BK338) | ((with_reducible refine gate_callee (f := 42) rfl ?_); refine zF 19 Try.func42 #[.slice A0_2 l0_2.length c0_2, .slice A1_2 l1_2.length c1_2] rfl zL ?_; (with_reducible refine (laws_eqIntS.calls k _ _ l0_2 _ _ l1_2 true _ ?side1 ?side2 ?side3 ?side4 A5.out).mono ?_); (case side1 => exact zC (Kd.C_below HR0_2.out HB.out)); (case side2 => exact HC0_2.out); (case side3 => exact zC (Kd.C_below HR1_2.out HB.out)); (case side4 => exact HC1_2.out); rintro e w' ⟨rfl, ⟨nd, rfl⟩⟩; refine ⟨_, rfl, ?_⟩))
    go_ret
    exact ⟨zE, zB⟩
  replace c6 := Bool.eq_false_iff.mpr c6
  subst c6
  have H1 : (some false) = some r := by rw [if_neg (show ¬ (false = true) by decide)] at H; exact H
  clear H
  have H := H1
  clear H1
  obtain rfl := Option.some.inj H
  go_enter Try.func195, Try.ntmps195
  go_wp2_with (first | ((with_reducible refine gate_dst (N := 2) rfl ?_); refine zJ 2 #[.int .i64 a0_0, .int .i64 a0_1, .slice A0_2 l0_2.length c0_2] 129 ?_; intro gb337 hg w12 hbox hb; have n0_ := zK (zp zB hb); have n1_ := zK (hbox); have n2_ := zK (zI hg zB); have n3_ := zK (zI hg zB); clear HB; have HB := n0_; have BK337 := n1_; have GW337 := n2_; have GE337 := n3_; clear n0_ n1_ n2_ n3_; clear hb hbox hg) | ((with_reducible refine gate_dst (N := 3) rfl ?_); refine zJ 3 #[.int .i64 a1_0, .int .i64 a1_1, .slice A1_2 l1_2.length c1_2] 129 ?_; intro gb338 hg w13 hbox hb; have n0_ := zK (zg (zM BK337) hb); have n1_ := zK (zp zB hb); have n2_ := zK (hbox); have n3_ := zK (zI hg zB); have n4_ := zK (zI hg zB); have n5_ := zK (zH hg (zM BK337)); have n6_ := zK (zG hg (zM BK337)); clear BK337; clear HB; have BK337 := n0_; have HB := n1_; have BK338 := n2_; have GW338 := n3_; have GE338 := n4_; have NB337_338 := n5_; have NB338_337 := n6_; clear n0_ n1_ n2_ n3_ n4_ n5_ n6_; clear hb hbox hg; have hnb14 := NB337_338.out; have hnc14 := NB338_337.out; obtain ⟨hcz15_0, hcz15_1, hcz15_2, hfz15_0, hfz15_1, hfz15_2⟩ := zc3 BK337; obtain ⟨hcz16_0, hcz16_1, hcz16_2, hfz16_0, hfz16_1, hfz16_2⟩ := zc3 BK338) | ((with_reducible refine gate_callee (f := 42) rfl ?_); refine zF 19 Try.func42 #[.slice A0_2 l0_2.length c0_2, .slice A1_2 l1_2.length c1_2] rfl zL ?_; (with_reducible refine (laws_eqIntS.calls k _ _ l0_2 _ _ l1_2 false _ ?side1 ?side2 ?side3 ?side4 A5.out).mono ?_); (case side1 => exact zC (Kd.C_below HR0_2.out HB.out)); (case side2 => exact HC0_2.out); (case side3 => exact zC (Kd.C_below HR1_2.out HB.out)); (case side4 => exact HC1_2.out); rintro e w' ⟨rfl, ⟨nd, rfl⟩⟩; refine ⟨_, rfl, ?_⟩))
  go_ret
  exact ⟨zE, zB⟩

end Go.Proofs.Ytkfagiojcjnfkaa.PFnExactNestOk
