-- Printed out of the translation by this session's own turned copy of a printer; Lean checks it.
import Derived.Test.YtemcipcijhkhjaaPFnMatBoundx0
namespace Go.Proofs.Ytemcipcijhkhjaa.PFnMatBound
open Go.RowKit Go.Proofs.YtemcipcijhkhjaaW.PrintWords Go.Proofs.YtemcipcijhkhjaaW.PrintLast Go.Proofs.YtemcipcijhkhjaaW.PrintMore
attribute [local go_sem] max2_int min2_int max_two min_two max_three min_three max_four min_four   -- for this text's walks alone
set_option linter.unusedVariables false
set_option linter.unusedSimpArgs false

/-! ### laws_big: function 14 -/
def laws_big.f (l0 : List Int) : Option (Bool) := some (decide ((l0.length : Int) > 1048576))
set_option maxHeartbeats 8000000 in
set_option maxRecDepth 100000 in
theorem laws_big.calls (A0 : Option Addr) (c0 : Nat) (l0 : List Int) (r : Bool) (w : World) (hr0 : Kd.C (Kd.int .u8) w A0 l0.length l0) (hc0 : l0.length ≤ c0) (h : laws_big.f l0 = some r) :
    Calls Try.prog 14 #[.slice A0 l0.length c0] w fun e w' => e = .returned (.bool r) ∧ Drawn0 w w' := by
  have HR0 := zK hr0
  have HC0 := zK hc0
  clear hr0 hc0
  have H : (some (decide ((l0.length : Int) > 1048576))) = some r := h
  clear h
  obtain rfl := Option.some.inj H
  go_enter Try.func14, Try.ntmps14
  go_wp2
  go_ret
  exact ⟨zR, zD⟩

/-! ### laws_at: function 15 -/
def laws_at.f (l0 : List Int) (a1 : Int) : Option (Int) := if a1 < (l0.length : Int) then (if 0 ≤ a1 then (some (wrap64 (rd l0 a1))) else (none)) else (some (Int.tmod (wrap64 (a1 * 37)) 251))
set_option maxHeartbeats 8000000 in
set_option maxRecDepth 100000 in
theorem laws_at.calls (A0 : Option Addr) (c0 : Nat) (l0 : List Int) (a1 : Int) (r : Int) (w : World) (hr0 : Kd.C (Kd.int .u8) w A0 l0.length l0) (hc0 : l0.length ≤ c0) (h : laws_at.f l0 a1 = some r) :
    Calls Try.prog 15 #[.slice A0 l0.length c0, .int .i64 a1] w fun e w' => e = .returned (.int .i64 r) ∧ Drawn0 w w' := by
  have HR0 := zK hr0
  have HC0 := zK hc0
  clear hr0 hc0
  have H : (if a1 < (l0.length : Int) then (if 0 ≤ a1 then (some (wrap64 (rd l0 a1))) else (none)) else (some (Int.tmod (wrap64 (a1 * 37)) 251))) = some r := h
  clear h
  by_cases c3 : a1 < (l0.length : Int)
  rotate_left
  · rw [if_neg c3] at H
    have c3b0 : decide (a1 < (l0.length : Int)) = false := decide_eq_false c3
    clear c3
    obtain rfl := Option.some.inj H
    go_enter Try.func15, Try.ntmps15
    go_wp2
    go_ret
    exact ⟨zR, zD⟩
  rw [if_pos c3] at H
  have c3b0 : decide (a1 < (l0.length : Int)) = true := decide_eq_true c3
  clear c3
  by_cases c4 : 0 ≤ a1
  rotate_left
  · rw [if_neg c4] at H
    exact absurd H (by simp)
  rw [if_pos c4] at H
  have c4b0 : decide (0 ≤ a1) = true := decide_eq_true c4
  clear c4
  obtain rfl := Option.some.inj H
  have p101 : 0 ≤ (a1 : Int) := of_decide_eq_true zA
  have q101 : a1 < (l0.length : Int) := of_decide_eq_true zA
  obtain ⟨ad101, e101, hx101_0⟩ := Kd.at_int HR0.out a1 p101 q101
  cases e101
  replace p101 := eq_true p101
  replace q101 := eq_true q101
  go_enter Try.func15, Try.ntmps15
  go_wp2
  go_ret
  exact ⟨zR, zD⟩

/-! ### impl_within: function 65 -/
def impl_within.f (a0 : Int) (a1 : Int) (a2 : Int) : Option (Bool) := if a0 ≥ a1 then (some (decide (a0 ≤ a2))) else (some false)
set_option maxHeartbeats 8000000 in
set_option maxRecDepth 100000 in
theorem impl_within.calls (a0 : Int) (a1 : Int) (a2 : Int) (r : Bool) (w : World) (h : impl_within.f a0 a1 a2 = some r) :
    Calls Try.prog 65 #[.int .i64 a0, .int .i64 a1, .int .i64 a2] w fun e w' => e = .returned (.bool r) ∧ Drawn0 w w' := by
  have H : (if a0 ≥ a1 then (some (decide (a0 ≤ a2))) else (some false)) = some r := h
  clear h
  by_cases c4 : a0 ≥ a1
  · rw [if_pos c4] at H
    have c4b0 : decide (a1 ≤ a0) = true := decide_eq_true c4
    clear c4
    obtain rfl := Option.some.inj H
    go_enter Try.func65, Try.ntmps65
    go_wp2
    go_ret
    exact ⟨zR, zD⟩
  rw [if_neg c4] at H
  have c4b0 : decide (a1 ≤ a0) = false := decide_eq_false c4
  clear c4
  obtain rfl := Option.some.inj H
  go_enter Try.func65, Try.ntmps65
  go_wp2
  go_ret
  exact ⟨zR, zD⟩

/-! ### impl_isReal: function 115 -/
def impl_isReal.f (a0 : Int) : Option (Bool) := (impl_within.f a0 (-1099511627776) 1099511627776).bind fun t102 => (some t102)
set_option maxHeartbeats 8000000 in
set_option maxRecDepth 100000 in
theorem impl_isReal.calls (a0 : Int) (r : Bool) (w : World) (h : impl_isReal.f a0 = some r) :
    Calls Try.prog 115 #[.int .i64 a0] w fun e w' => e = .returned (.bool r) ∧ Drawn0 w w' := by
  have H : ((impl_within.f a0 (-1099511627776) 1099511627776).bind fun t102 => (some t102)) = some r := h
  clear h
  replace H := Option.bind_eq_some_iff.mp H
  obtain ⟨t102, A20, H⟩ := H
  replace H : (some t102) = some r := H
  have A2 := zK A20
  clear A20
  obtain rfl := Option.some.inj H
  go_enter Try.func115, Try.ntmps115
  go_wp2_with (first | ((with_reducible refine gate_callee (f := 65) rfl ?_); refine goesL_ (some 4) rfl rfl Try.func65 (by kernel_rfl) rfl #[.int .i64 a0, .int .i64 (-1099511627776), .int .i64 1099511627776] rfl zL ?_; (with_reducible refine (impl_within.calls a0 (-1099511627776) 1099511627776 t102 _ A2.out).mono ?_); rintro e w' ⟨rfl, ⟨nd, rfl⟩⟩; refine ⟨_, rfl, ?_⟩))
  go_ret
  exact ⟨zR, zD⟩

/-! ### impl_realsOk: function 61 -/
def impl_realsOk.l0 : Nat → List Int → List Int → Int → Int → Option (Bool)
  | 0, _, _, _, _ => none
  | k + 1, x0, x5, x6, x7 => if x7 < x6 then (if 0 ≤ x7 then (if x7 < (x5.length : Int) then ((impl_isReal.f (rd x5 x7)).bind fun t104 => (if t104 = true then (impl_realsOk.l0 k x0 x5 x6 (wrap64 (x7 + 1))) else (some false))) else (none)) else (none)) else (if (x0.length : Int) > 0 then (some (decide ((x0.length : Int) ≤ 4096))) else (some false))
def impl_realsOk.f (k : Nat) (l0 : List Int) : Option (Bool) := impl_realsOk.l0 k l0 l0 (l0.length : Int) 0
theorem impl_realsOk.mono_l : ∀ k, (∀ y0 y1 y2 y3, LeO (impl_realsOk.l0 k y0 y1 y2 y3) (impl_realsOk.l0 (k + 1) y0 y1 y2 y3))
  | 0 => fun _ _ _ _ r h => by simp [impl_realsOk.l0] at h
  | k + 1 => by
    have ih0 := impl_realsOk.mono_l k
    · intro y0 y1 y2 y3
      unfold impl_realsOk.l0
      repeat' first
      | (with_reducible exact ih0 _ _ _ _)
      | (with_reducible exact LeO.refl _)
      | (with_reducible exact LeO.none _)
      | (with_reducible refine LeO.ite ?_ ?_)
      | (with_reducible refine LeO.bind ?_ (fun _ => ?_))
      | exact ih0 _ _ _ _
      | exact LeO.none _
      | refine LeO.ite ?_ ?_
      | refine LeO.bind ?_ (fun _ => ?_)
theorem impl_realsOk.mono : ∀ a0 k, LeO (impl_realsOk.f k a0) (impl_realsOk.f (k + 1) a0) := by
  intro a0 k
  have ih0 := impl_realsOk.mono_l k
  unfold impl_realsOk.f
  repeat' first
      | (with_reducible exact ih0 _ _ _ _)
      | (with_reducible exact LeO.refl _)
      | (with_reducible exact LeO.none _)
      | (with_reducible refine LeO.ite ?_ ?_)
      | (with_reducible refine LeO.bind ?_ (fun _ => ?_))
      | exact ih0 _ _ _ _
      | exact LeO.none _
      | refine LeO.ite ?_ ?_
      | refine LeO.bind ?_ (fun _ => ?_)
set_option maxHeartbeats 8000000 in
set_option maxRecDepth 100000 in
theorem impl_realsOk.calls (k : Nat) (A0 : Option Addr) (c0 : Nat) (l0 : List Int) (r : Bool) (w : World) (hr0 : Kd.C (Kd.int .i64) w A0 l0.length l0) (hc0 : l0.length ≤ c0) (h : impl_realsOk.f k l0 = some r) :
    Calls Try.prog 61 #[.slice A0 l0.length c0] w fun e w' => e = .returned (.bool r) ∧ Drawn0 w w' := by
  have HR0 := zK hr0
  have HC0 := zK hc0
  clear hr0 hc0
  have H : (impl_realsOk.l0 k l0 l0 (l0.length : Int) 0) = some r := h
  clear h
  have H' := zK H
  clear H
  go_enter Try.func61, Try.ntmps61
  go_wp2
  go_loopg [7] k (fun kq v7 w' => ∃ (x7_1 : Int), v7 = .int .i64 x7_1 ∧ Aside0 (impl_realsOk.l0 kq l0 l0 (l0.length : Int) x7_1 = some r) ∧ Aside0 (kq ≤ k) ∧ Drawn0 w w')
  case atStart => exact ⟨(0), zR, H', ⟨Nat.le_refl _⟩, zD⟩
  clear H'
  obtain ⟨x7_1, rfl, HA, HK1, ⟨m1, rfl⟩⟩ := hrel
  rcases gk with _ | k1
  · exact absurd HA.out (by simp [impl_realsOk.l0])
  have H := HA.out
  clear HA
  simp only [impl_realsOk.l0] at H
  by_cases c2 : x7_1 < (l0.length : Int)
  rotate_left
  · rw [if_neg c2] at H
    have c2b0 : decide (x7_1 < (l0.length : Int)) = false := decide_eq_false c2
    clear c2
    by_cases c7 : (l0.length : Int) > 0
    · rw [if_pos c7] at H
      have c7b0 : decide (0 < (l0.length : Int)) = true := decide_eq_true c7
      have c7b1 : decide (0 < l0.length) = true := decide_eq_true (by omega)
      clear c7
      obtain rfl := Option.some.inj H
      go_wp2
      go_ret
      exact ⟨zR, zD⟩
    rw [if_neg c7] at H
    have c7b0 : decide (0 < (l0.length : Int)) = false := decide_eq_false c7
    have c7b1 : decide (0 < l0.length) = false := decide_eq_false (by omega)
    clear c7
    obtain rfl := Option.some.inj H
    go_wp2
    go_ret
    exact ⟨zR, zD⟩
  rw [if_pos c2] at H
  have c2b0 : decide (x7_1 < (l0.length : Int)) = true := decide_eq_true c2
  clear c2
  by_cases c3 : 0 ≤ x7_1
  rotate_left
  · rw [if_neg c3] at H
    exact absurd H (by simp)
  rw [if_pos c3] at H
  have c3b0 : decide (0 ≤ x7_1) = true := decide_eq_true c3
  clear c3
  by_cases c4 : x7_1 < (l0.length : Int)
  rotate_left
  · rw [if_neg c4] at H
    exact absurd H (by simp)
  rw [if_pos c4] at H
  have c4b0 : decide (x7_1 < (l0.length : Int)) = true := decide_eq_true c4
  clear c4
  replace H := Option.bind_eq_some_iff.mp H
  obtain ⟨t104, A50, H⟩ := H
  replace H : (if t104 = true then (impl_realsOk.l0 k1 l0 l0 (l0.length : Int) (wrap64 (x7_1 + 1))) else (some false)) = some r := H
  have A5 := zK A50
  clear A50
  by_cases c6 : t104 = true
  rotate_left
  · replace c6 := Bool.eq_false_iff.mpr c6
    subst c6
    have H1 : (some false) = some r := by rw [if_neg (show ¬ (false = true) by decide)] at H; exact H
    clear H
    have H := H1
    clear H1
    obtain rfl := Option.some.inj H
    have p103 : 0 ≤ (x7_1 : Int) := of_decide_eq_true zA
    have q103 : x7_1 < (l0.length : Int) := of_decide_eq_true zA
    obtain ⟨ad103, e103, hx103_0⟩ := Kd.at_int HR0.out x7_1 p103 q103
    cases e103
    replace p103 := eq_true p103
    replace q103 := eq_true q103
    go_wp2_with (first | ((with_reducible refine gate_callee (f := 115) rfl ?_); refine goesL_ (some 12) rfl rfl Try.func115 (by kernel_rfl) rfl #[.int .i64 (rd l0 x7_1)] rfl zL ?_; (with_reducible refine (impl_isReal.calls (rd l0 x7_1) false _ A5.out).mono ?_); rintro e w' ⟨rfl, ⟨nd, rfl⟩⟩; refine ⟨_, rfl, ?_⟩))
    go_ret
    exact ⟨zR, zD⟩
  subst c6
  have H1 : (impl_realsOk.l0 k1 l0 l0 (l0.length : Int) (wrap64 (x7_1 + 1))) = some r := by rw [if_pos rfl] at H; exact H
  clear H
  have H := H1
  clear H1
  have H' := zK H
  clear H
  have p103 : 0 ≤ (x7_1 : Int) := of_decide_eq_true zA
  have q103 : x7_1 < (l0.length : Int) := of_decide_eq_true zA
  obtain ⟨ad103, e103, hx103_0⟩ := Kd.at_int HR0.out x7_1 p103 q103
  cases e103
  replace p103 := eq_true p103
  replace q103 := eq_true q103
  go_wp2_with (first | ((with_reducible refine gate_callee (f := 115) rfl ?_); refine goesL_ (some 12) rfl rfl Try.func115 (by kernel_rfl) rfl #[.int .i64 (rd l0 x7_1)] rfl zL ?_; (with_reducible refine (impl_isReal.calls (rd l0 x7_1) true _ A5.out).mono ?_); rintro e w' ⟨rfl, ⟨nd, rfl⟩⟩; refine ⟨_, rfl, ?_⟩))
  go_roundg k1
  case measure => have := HK1.out; omega
  case rel => exact ⟨(wrap64 (x7_1 + 1)), zR, H', ⟨by have := HK1.out; omega⟩, zD⟩

/-! ### impl_near: function 116 -/
def impl_near.f (a0 : Int) (a1 : Int) (a2 : Int) : Option (Int) := if a1 > (wrap64 (a2 - a1)) then (some (wrap64 (a0 + 1))) else (if a1 = (wrap64 (a2 - a1)) then (if (Go.bits .and .i64 a0 1) = 1 then (some (wrap64 (a0 + 1))) else (some a0)) else (some a0))
set_option maxHeartbeats 8000000 in
set_option maxRecDepth 100000 in
theorem impl_near.calls (a0 : Int) (a1 : Int) (a2 : Int) (r : Int) (w : World) (h : impl_near.f a0 a1 a2 = some r) :
    Calls Try.prog 116 #[.int .i64 a0, .int .i64 a1, .int .i64 a2] w fun e w' => e = .returned (.int .i64 r) ∧ Drawn0 w w' := by
  have H : (if a1 > (wrap64 (a2 - a1)) then (some (wrap64 (a0 + 1))) else (if a1 = (wrap64 (a2 - a1)) then (if (Go.bits .and .i64 a0 1) = 1 then (some (wrap64 (a0 + 1))) else (some a0)) else (some a0))) = some r := h
  clear h
  by_cases c4 : a1 > (wrap64 (a2 - a1))
  · rw [if_pos c4] at H
    have c4b0 : decide ((wrap64 (a2 - a1)) < a1) = true := decide_eq_true c4
    clear c4
    obtain rfl := Option.some.inj H
    go_enter Try.func116, Try.ntmps116
    go_wp2
    go_ret
    exact ⟨zR, zD⟩
  rw [if_neg c4] at H
  have c4b0 : decide ((wrap64 (a2 - a1)) < a1) = false := decide_eq_false c4
  clear c4
  by_cases c5 : a1 = (wrap64 (a2 - a1))
  rotate_left
  · rw [if_neg c5] at H
    have c5b0 : (a1 == (wrap64 (a2 - a1))) = false := beq_eq_false_iff_ne.mpr c5
    have c5b1 : (a1 != (wrap64 (a2 - a1))) = true := bne_iff_ne.mpr c5
    obtain rfl := Option.some.inj H
    go_enter Try.func116, Try.ntmps116
    go_wp2
    go_ret
    exact ⟨zR, zD⟩
  rw [if_pos c5] at H
  have c5b0 : (a1 == (wrap64 (a2 - a1))) = true := beq_iff_eq.mpr c5
  have c5b1 : (a1 != (wrap64 (a2 - a1))) = false := bne_eq_false_iff_eq.mpr c5
  clear c5
  by_cases c6 : (Go.bits .and .i64 a0 1) = 1
  rotate_left
  · rw [if_neg c6] at H
    have c6b0 : ((Go.bits .and .i64 a0 1) == 1) = false := beq_eq_false_iff_ne.mpr c6
    have c6b1 : ((Go.bits .and .i64 a0 1) != 1) = true := bne_iff_ne.mpr c6
    obtain rfl := Option.some.inj H
    go_enter Try.func116, Try.ntmps116
    go_wp2
    go_ret
    exact ⟨zR, zD⟩
  rw [if_pos c6] at H
  have c6b0 : ((Go.bits .and .i64 a0 1) == 1) = true := beq_iff_eq.mpr c6
  have c6b1 : ((Go.bits .and .i64 a0 1) != 1) = false := bne_eq_false_iff_eq.mpr c6
  clear c6
  obtain rfl := Option.some.inj H
  go_enter Try.func116, Try.ntmps116
  go_wp2
  go_ret
  exact ⟨zR, zD⟩

/-! ### impl_Near: function 62 -/
def impl_Near.j0 : Nat → Int → Int → Bool → Option (Int)
  | 0, _, _, _ => none
  | k + 1, x0, x1, x12 => if x12 = true then (some 0) else (if x1 = 0 then (none) else (if (Int.tmod x0 x1) < 0 then ((impl_near.f (wrap64 ((wrap64 (Int.tdiv x0 x1)) - 1)) (wrap64 ((Int.tmod x0 x1) + x1)) x1).bind fun t105 => (some t105)) else ((impl_near.f (wrap64 (Int.tdiv x0 x1)) (Int.tmod x0 x1) x1).bind fun t106 => (some t106))))
def impl_Near.f (k : Nat) (a0 : Int) (a1 : Int) : Option (Int) := if a1 < 1 then (impl_Near.j0 k a0 a1 true) else (impl_Near.j0 k a0 a1 (decide (a1 > 4611686018427387904)))
theorem impl_Near.mono_l : ∀ k, (∀ y0 y1 y2, LeO (impl_Near.j0 k y0 y1 y2) (impl_Near.j0 (k + 1) y0 y1 y2))
  | 0 => fun _ _ _ r h => by simp [impl_Near.j0] at h
  | k + 1 => by
    have ih0 := impl_Near.mono_l k
    · intro y0 y1 y2
      unfold impl_Near.j0
      repeat' first
      | (with_reducible exact ih0 _ _ _)
      | (with_reducible exact LeO.refl _)
      | (with_reducible exact LeO.none _)
      | (with_reducible refine LeO.ite ?_ ?_)
      | (with_reducible refine LeO.bind ?_ (fun _ => ?_))
      | exact ih0 _ _ _
      | exact LeO.none _
      | refine LeO.ite ?_ ?_
      | refine LeO.bind ?_ (fun _ => ?_)
theorem impl_Near.mono : ∀ a0 a1 k, LeO (impl_Near.f k a0 a1) (impl_Near.f (k + 1) a0 a1) := by
  intro a0 a1 k
  have ih0 := impl_Near.mono_l k
  unfold impl_Near.f
  repeat' first
      | (with_reducible exact ih0 _ _ _)
      | (with_reducible exact LeO.refl _)
      | (with_reducible exact LeO.none _)
      | (with_reducible refine LeO.ite ?_ ?_)
      | (with_reducible refine LeO.bind ?_ (fun _ => ?_))
      | exact ih0 _ _ _
      | exact LeO.none _
      | refine LeO.ite ?_ ?_
      | refine LeO.bind ?_ (fun _ => ?_)
set_option maxHeartbeats 8000000 in
set_option maxRecDepth 100000 in
theorem impl_Near.calls (k : Nat) (a0 : Int) (a1 : Int) (r : Int) (w : World) (h : impl_Near.f k a0 a1 = some r) :
    Calls Try.prog 62 #[.int .i64 a0, .int .i64 a1] w fun e w' => e = .returned (.int .i64 r) ∧ Drawn0 w w' := by
  have H : (if a1 < 1 then (impl_Near.j0 k a0 a1 true) else (impl_Near.j0 k a0 a1 (decide (a1 > 4611686018427387904)))) = some r := h
  clear h
  have HC3 := zK H
  clear H
  go_enter Try.func62, Try.ntmps62
  go_upto_region 1 with (fail)
  repeat (go_quiet (fail); go_upto_region 1 with (fail))
  go_cut [12] (fun v12 wc => ∃ (kq : Nat) (x12_2 : Bool), v12 = .bool x12_2 ∧ Aside0 (impl_Near.j0 kq a0 a1 x12_2 = some r) ∧ Aside0 (kq ≤ k) ∧ Drawn0 w wc)
  case first =>
   have H := HC3.out
   clear HC3
   by_cases c4 : a1 < 1
   · rw [if_pos c4] at H
     have c4b0 : decide (a1 < 1) = true := decide_eq_true c4
     clear c4
     (first | rw [c4b0] | (simp only [i64_w, i32_w]; rw [c4b0]) | skip)
     have H' := zK H
     clear H
     go_wp2
     repeat (go_quiet (fail); try go_wp2)
     go_meet
     case rel => exact ⟨_, (true), zR, H', ⟨by first | omega | exact Nat.le_refl _⟩, zD⟩
   rw [if_neg c4] at H
   have c4b0 : decide (a1 < 1) = false := decide_eq_false c4
   clear c4
   (first | rw [c4b0] | (simp only [i64_w, i32_w]; rw [c4b0]) | skip)
   have H' := zK H
   clear H
   go_wp2
   repeat (go_quiet (fail); try go_wp2)
   go_meet
   case rel => exact ⟨_, (decide (a1 > 4611686018427387904)), zR, H', ⟨by first | omega | exact Nat.le_refl _⟩, zD⟩
  case rest =>
   clear HC3
   try clear p2
   try clear c4
   try clear c4b0
   obtain ⟨kq, x12_2, rfl, HA, HJ2, ⟨mc2, rfl⟩⟩ := hcut
   cases kq with
   | zero => exact absurd HA.out (by simp [impl_Near.j0])
   | succ kj2 =>
    have H := HA.out
    clear HA
    simp only [impl_Near.j0] at H
    by_cases c5 : x12_2 = true
    · subst c5
      have H1 : (some 0) = some r := by rw [if_pos rfl] at H; exact H
      clear H
      have H := H1
      clear H1
      obtain rfl := Option.some.inj H
      go_wp2
      repeat (go_quiet (fail); try go_wp2)
      go_ret
      exact ⟨zR, zD⟩
    replace c5 := Bool.eq_false_iff.mpr c5
    subst c5
    have H1 : (if a1 = 0 then (none) else (if (Int.tmod a0 a1) < 0 then ((impl_near.f (wrap64 ((wrap64 (Int.tdiv a0 a1)) - 1)) (wrap64 ((Int.tmod a0 a1) + a1)) a1).bind fun t105 => (some t105)) else ((impl_near.f (wrap64 (Int.tdiv a0 a1)) (Int.tmod a0 a1) a1).bind fun t106 => (some t106)))) = some r := by rw [if_neg (show ¬ (false = true) by decide)] at H; exact H
    clear H
    have H := H1
    clear H1
    by_cases c6 : a1 = 0
    · rw [if_pos c6] at H
      exact absurd H (by simp)
    rw [if_neg c6] at H
    have c6b0 : (a1 == 0) = false := beq_eq_false_iff_ne.mpr c6
    have c6b1 : (a1 != 0) = true := bne_iff_ne.mpr c6
    by_cases c7 : (Int.tmod a0 a1) < 0
    rotate_left
    · rw [if_neg c7] at H
      have c7b0 : decide ((Int.tmod a0 a1) < 0) = false := decide_eq_false c7
      clear c7
      replace H := Option.bind_eq_some_iff.mp H
      obtain ⟨t106, A90, H⟩ := H
      replace H : (some t106) = some r := H
      have A9 := zK A90
      clear A90
      obtain rfl := Option.some.inj H
      go_wp2_with (first | (go_at_call 116; (with_reducible refine (impl_near.calls (wrap64 (Int.tdiv a0 a1)) (Int.tmod a0 a1) a1 t106 _ A9.out).mono ?_); rintro e w' ⟨rfl, ⟨nd, rfl⟩⟩; (try first | exact ⟨rfl, _, World.drewN_drewN _ _ _⟩ | exact ⟨rfl, _, Eq.trans (World.drewN_drewN _ _ _) (congrArg (World.drewN _) (Nat.add_assoc _ _ _))⟩)))
      repeat (go_quiet (first | (go_at_call 116; (with_reducible refine (impl_near.calls (wrap64 (Int.tdiv a0 a1)) (Int.tmod a0 a1) a1 t106 _ A9.out).mono ?_); rintro e w' ⟨rfl, ⟨nd, rfl⟩⟩; (try first | exact ⟨rfl, _, World.drewN_drewN _ _ _⟩ | exact ⟨rfl, _, Eq.trans (World.drewN_drewN _ _ _) (congrArg (World.drewN _) (Nat.add_assoc _ _ _))⟩))); try go_wp2_with (first | (go_at_call 116; (with_reducible refine (impl_near.calls (wrap64 (Int.tdiv a0 a1)) (Int.tmod a0 a1) a1 t106 _ A9.out).mono ?_); rintro e w' ⟨rfl, ⟨nd, rfl⟩⟩; (try first | exact ⟨rfl, _, World.drewN_drewN _ _ _⟩ | exact ⟨rfl, _, Eq.trans (World.drewN_drewN _ _ _) (congrArg (World.drewN _) (Nat.add_assoc _ _ _))⟩))))
      go_ret
      exact ⟨zR, zD⟩
    rw [if_pos c7] at H
    have c7b0 : decide ((Int.tmod a0 a1) < 0) = true := decide_eq_true c7
    clear c7
    replace H := Option.bind_eq_some_iff.mp H
    obtain ⟨t105, A80, H⟩ := H
    replace H : (some t105) = some r := H
    have A8 := zK A80
    clear A80
    obtain rfl := Option.some.inj H
    go_wp2_with (first | (go_at_call 116; (with_reducible refine (impl_near.calls (wrap64 ((wrap64 (Int.tdiv a0 a1)) - 1)) (wrap64 ((Int.tmod a0 a1) + a1)) a1 t105 _ A8.out).mono ?_); rintro e w' ⟨rfl, ⟨nd, rfl⟩⟩; (try first | exact ⟨rfl, _, World.drewN_drewN _ _ _⟩ | exact ⟨rfl, _, Eq.trans (World.drewN_drewN _ _ _) (congrArg (World.drewN _) (Nat.add_assoc _ _ _))⟩)))
    repeat (go_quiet (first | (go_at_call 116; (with_reducible refine (impl_near.calls (wrap64 ((wrap64 (Int.tdiv a0 a1)) - 1)) (wrap64 ((Int.tmod a0 a1) + a1)) a1 t105 _ A8.out).mono ?_); rintro e w' ⟨rfl, ⟨nd, rfl⟩⟩; (try first | exact ⟨rfl, _, World.drewN_drewN _ _ _⟩ | exact ⟨rfl, _, Eq.trans (World.drewN_drewN _ _ _) (congrArg (World.drewN _) (Nat.add_assoc _ _ _))⟩))); try go_wp2_with (first | (go_at_call 116; (with_reducible refine (impl_near.calls (wrap64 ((wrap64 (Int.tdiv a0 a1)) - 1)) (wrap64 ((Int.tmod a0 a1) + a1)) a1 t105 _ A8.out).mono ?_); rintro e w' ⟨rfl, ⟨nd, rfl⟩⟩; (try first | exact ⟨rfl, _, World.drewN_drewN _ _ _⟩ | exact ⟨rfl, _, Eq.trans (World.drewN_drewN _ _ _) (congrArg (World.drewN _) (Nat.add_assoc _ _ _))⟩))))
    go_ret
    exact ⟨zR, zD⟩

/-! ### impl_Calibrate: function 16 -/
def impl_Calibrate.l0 : Nat → Int → Int → List Int → Int → Int → Option (Int × Int × Bool)
  | 0, _, _, _, _, _ => none
  | k + 1, x4, x5, x13, x14, x15 => if x15 < x14 then (if 0 ≤ x15 then (if x15 < (x13.length : Int) then (impl_Calibrate.l0 k (mn x4 (rd x13 x15)) (mx x5 (rd x13 x15)) x13 x14 (wrap64 (x15 + 1))) else (none)) else (none)) else ((impl_Near.f k (wrap64 (-x4)) (mx 1 (wrap64 (Int.tdiv (wrap64 ((wrap64 (x5 - x4)) + 254)) 255)))).bind fun t110 => (some (mx 1 (wrap64 (Int.tdiv (wrap64 ((wrap64 (x5 - x4)) + 254)) 255)), t110, true)))
def impl_Calibrate.f (k : Nat) (l0 : List Int) : Option (Int × Int × Bool) := (impl_realsOk.f k l0).bind fun t108 => (if t108 = true then (impl_Calibrate.l0 k 0 0 l0 (l0.length : Int) 0) else (some (0, 0, false)))
theorem impl_Calibrate.mono_l : ∀ k, (∀ y0 y1 y2 y3 y4, LeO (impl_Calibrate.l0 k y0 y1 y2 y3 y4) (impl_Calibrate.l0 (k + 1) y0 y1 y2 y3 y4))
  | 0 => fun _ _ _ _ _ r h => by simp [impl_Calibrate.l0] at h
  | k + 1 => by
    have ih0 := impl_Calibrate.mono_l k
    · intro y0 y1 y2 y3 y4
      unfold impl_Calibrate.l0
      repeat' first
      | (with_reducible exact ih0 _ _ _ _ _)
      | (with_reducible exact impl_Near.mono _ _ _)
      | (with_reducible exact impl_realsOk.mono _ _)
      | (with_reducible exact LeO.refl _)
      | (with_reducible exact LeO.none _)
      | (with_reducible refine LeO.ite ?_ ?_)
      | (with_reducible refine LeO.bind ?_ (fun _ => ?_))
      | exact ih0 _ _ _ _ _
      | exact impl_Near.mono _ _ _
      | exact impl_realsOk.mono _ _
      | exact LeO.none _
      | refine LeO.ite ?_ ?_
      | refine LeO.bind ?_ (fun _ => ?_)
theorem impl_Calibrate.mono : ∀ a0 k, LeO (impl_Calibrate.f k a0) (impl_Calibrate.f (k + 1) a0) := by
  intro a0 k
  have ih0 := impl_Calibrate.mono_l k
  unfold impl_Calibrate.f
  repeat' first
      | (with_reducible exact ih0 _ _ _ _ _)
      | (with_reducible exact impl_Near.mono _ _ _)
      | (with_reducible exact impl_realsOk.mono _ _)
      | (with_reducible exact LeO.refl _)
      | (with_reducible exact LeO.none _)
      | (with_reducible refine LeO.ite ?_ ?_)
      | (with_reducible refine LeO.bind ?_ (fun _ => ?_))
      | exact ih0 _ _ _ _ _
      | exact impl_Near.mono _ _ _
      | exact impl_realsOk.mono _ _
      | exact LeO.none _
      | refine LeO.ite ?_ ?_
      | refine LeO.bind ?_ (fun _ => ?_)
set_option maxHeartbeats 8000000 in
set_option maxRecDepth 100000 in
theorem impl_Calibrate.calls (k : Nat) (A0 : Option Addr) (c0 : Nat) (l0 : List Int) (r1 : Int) (r2 : Int) (r3 : Bool) (w : World) (hr0 : Kd.C (Kd.int .i64) w A0 l0.length l0) (hc0 : l0.length ≤ c0) (h : impl_Calibrate.f k l0 = some (r1, r2, r3)) :
    Calls Try.prog 16 #[.slice A0 l0.length c0] w fun e w' => e = .returned (.tuple #[.agg #[.int .i64 r1, .int .i64 r2], .bool r3]) ∧ Below w.heap.size w w' := by
  have hu45 := Try.underlying45
  have HR0 := zK hr0
  have HC0 := zK hc0
  clear hr0 hc0
  have HB := zK (Below.refl w.heap.size w)
  have H : ((impl_realsOk.f k l0).bind fun t108 => (if t108 = true then (impl_Calibrate.l0 k 0 0 l0 (l0.length : Int) 0) else (some (0, 0, false)))) = some (r1, r2, r3) := h
  clear h
  replace H := Option.bind_eq_some_iff.mp H
  obtain ⟨t108, A20, H⟩ := H
  replace H : (if t108 = true then (impl_Calibrate.l0 k 0 0 l0 (l0.length : Int) 0) else (some (0, 0, false))) = some (r1, r2, r3) := H
  have A2 := zK A20
  clear A20
  by_cases c3 : t108 = true
  rotate_left
  · replace c3 := Bool.eq_false_iff.mpr c3
    subst c3
    have H1 : (some (0, 0, false)) = some (r1, r2, r3) := by rw [if_neg (show ¬ (false = true) by decide)] at H; exact H
    clear H
    have H := H1
    clear H1
    simp only [Option.some.injEq, Prod.mk.injEq] at H
    obtain ⟨rfl, rfl, rfl⟩ := H
    go_enter Try.func16, Try.ntmps16
    go_wp2_with (first | ((with_reducible refine gate_dst (N := 2) rfl ?_); refine box_event ?hg (N := 2) ?hd (cs := #[.int .i64 0, .int .i64 0]) (t := 45) ?hr ?_; (case hd => rfl); (case hg => rfl); (case hr => first | (go_simp; done) | (go_simp; rfl)); intro gb107 hg w13 hbox hb; have n0_ := zK (zp zB hb); have n1_ := zK (hbox); have n2_ := zK ((by rw [hg]; exact (zz zB) : w.heap.size ≤ gb107)); have n3_ := zK ((by rw [hg]; exact (zz zB) : w.heap.size ≤ gb107)); clear HB; have HB := n0_; have BK107 := n1_; have GW107 := n2_; have GE107 := n3_; clear n0_ n1_ n2_ n3_; clear hb hbox hg) | ((with_reducible refine gate_callee (f := 61) rfl ?_); refine goesL_ (some 10) rfl rfl Try.func61 (by kernel_rfl) rfl #[.slice A0 l0.length c0] rfl zL ?_; (with_reducible refine (impl_realsOk.calls k _ _ l0 false _ ?side1 ?side2 A2.out).mono ?_); (case side1 => repeat (first | exact (Kd.C_below HR0.out HB.out) | (with_reducible refine Kd.C_alloc ?_ _) | (with_reducible refine Kd.C_drewN ?_ _) | (with_reducible refine Kd.C_drew ?_))); (case side2 => exact HC0.out); rintro e w' ⟨rfl, ⟨nd, rfl⟩⟩; refine ⟨_, rfl, ?_⟩; (try (rw [drewN_self w13]; generalize hq_ : World.drewN w13 _ = w13; have n0_ : Aside0 (w13.heap[gb107]? = some (.cells #[.int .i64 0, .int .i64 0] 45 (0, 0))) := ⟨by rw [← hq_]; exact (by (with_reducible repeat (first | refine zn ?_ _ | refine zd ?_ | refine za ?_ _)); exact BK107.out)⟩; have n1_ : Aside0 (Below w.heap.size w w13) := ⟨by rw [← hq_]; exact zB⟩; clear BK107 HB hq_; have BK107 := n0_; have HB := n1_; clear n0_ n1_)); have hcz14_0 : w13.cell? ⟨gb107, 0, none⟩ = some (.int .i64 0) := (zc BK107.out 0).trans rfl; have hcz14_1 : w13.cell? ⟨gb107, 1, none⟩ = some (.int .i64 0) := (zc BK107.out 1).trans rfl; have hfz14_0 := zf BK107.out 0; have hfz14_1 := zf BK107.out 1))
    refine bodyPost_ret (results_ct rfl _ _ gb107 45 #[.int .i64 0, .int .i64 0] (0, 0) _ rfl (by (with_reducible repeat (first | refine zn ?_ _ | refine zd ?_ | refine za ?_ _)); refine blk_put (cs := #[.int .i64 0, .int .i64 0]) ?_ 1 _ rfl; (with_reducible repeat (first | refine zn ?_ _ | refine zd ?_ | refine za ?_ _)); refine blk_put (cs := #[.int .i64 0, .int .i64 0]) ?_ 0 _ rfl; (with_reducible repeat (first | refine zn ?_ _ | refine zd ?_ | refine za ?_ _)); exact BK107.out) Try.underlying45 rfl (by kernel_rfl)) rfl ?_
    exact ⟨by first | rfl | (simp [errW_none, errW_some] <;> rfl) | (simp [*, errW_none, errW_some] <;> rfl), zB⟩
  subst c3
  have H1 : (impl_Calibrate.l0 k 0 0 l0 (l0.length : Int) 0) = some (r1, r2, r3) := by rw [if_pos rfl] at H; exact H
  clear H
  have H := H1
  clear H1
  have H' := zK H
  clear H
  go_enter Try.func16, Try.ntmps16
  go_wp2_with (first | ((with_reducible refine gate_dst (N := 2) rfl ?_); refine box_event ?hg (N := 2) ?hd (cs := #[.int .i64 0, .int .i64 0]) (t := 45) ?hr ?_; (case hd => rfl); (case hg => rfl); (case hr => first | (go_simp; done) | (go_simp; rfl)); intro gb107 hg w4 hbox hb; have n0_ := zK (zp zB hb); have n1_ := zK (hbox); have n2_ := zK ((by rw [hg]; exact (zz zB) : w.heap.size ≤ gb107)); have n3_ := zK ((by rw [hg]; exact (zz zB) : w.heap.size ≤ gb107)); clear HB; have HB := n0_; have BK107 := n1_; have GW107 := n2_; have GE107 := n3_; clear n0_ n1_ n2_ n3_; clear hb hbox hg) | ((with_reducible refine gate_callee (f := 61) rfl ?_); refine goesL_ (some 10) rfl rfl Try.func61 (by kernel_rfl) rfl #[.slice A0 l0.length c0] rfl zL ?_; (with_reducible refine (impl_realsOk.calls k _ _ l0 true _ ?side1 ?side2 A2.out).mono ?_); (case side1 => repeat (first | exact (Kd.C_below HR0.out HB.out) | (with_reducible refine Kd.C_alloc ?_ _) | (with_reducible refine Kd.C_drewN ?_ _) | (with_reducible refine Kd.C_drew ?_))); (case side2 => exact HC0.out); rintro e w' ⟨rfl, ⟨nd, rfl⟩⟩; refine ⟨_, rfl, ?_⟩))
  go_loopg [4, 5, 15] k (fun kq v4 v5 v15 w' => ∃ (x4_1 : Int) (x5_1 : Int) (x15_1 : Int), v4 = .int .i64 x4_1 ∧ v5 = .int .i64 x5_1 ∧ v15 = .int .i64 x15_1 ∧ Aside0 (impl_Calibrate.l0 kq x4_1 x5_1 l0 (l0.length : Int) x15_1 = some (r1, r2, r3)) ∧ Aside0 (kq ≤ k) ∧ Aside0 (w'.heap[gb107]? = some (.cells #[.int .i64 0, .int .i64 0] 45 (0, 0))) ∧ Aside0 (Below w.heap.size w w'))
  case atStart => exact ⟨(0), (0), (0), zR, zR, zR, H', ⟨Nat.le_refl _⟩, ⟨by (with_reducible repeat (first | refine zn ?_ _ | refine zd ?_ | refine za ?_ _)); exact BK107.out⟩, ⟨zB⟩⟩
  clear H'
  try clear c1
  try clear p2
  try clear c3
  obtain ⟨x4_1, x5_1, x15_1, rfl, rfl, rfl, HA, HK1, BK107, HB⟩ := hrel
  rcases gk with _ | k1
  · exact absurd HA.out (by simp [impl_Calibrate.l0])
  have H := HA.out
  clear HA
  simp only [impl_Calibrate.l0] at H
  by_cases c5 : x15_1 < (l0.length : Int)
  · rw [if_pos c5] at H
    have c5b0 : decide (x15_1 < (l0.length : Int)) = true := decide_eq_true c5
    clear c5
    by_cases c6 : 0 ≤ x15_1
    rotate_left
    · rw [if_neg c6] at H
      exact absurd H (by simp)
    rw [if_pos c6] at H
    have c6b0 : decide (0 ≤ x15_1) = true := decide_eq_true c6
    clear c6
    by_cases c7 : x15_1 < (l0.length : Int)
    rotate_left
    · rw [if_neg c7] at H
      exact absurd H (by simp)
    rw [if_pos c7] at H
    have c7b0 : decide (x15_1 < (l0.length : Int)) = true := decide_eq_true c7
    clear c7
    obtain ⟨ji8, hji8⟩ : ∃ j_ : Int, (mn x4_1 (rd l0 x15_1)) = j_ := ⟨_, rfl⟩
    replace H : (impl_Calibrate.l0 k1 ji8 (mx x5_1 (rd l0 x15_1)) l0 (l0.length : Int) (wrap64 (x15_1 + 1))) = some (r1, r2, r3) := by first | (rw [hji8] at H; exact H) | (simp only [hji8] at H ⊢; exact H)
    have hji8_ : (if (rd l0 x15_1) < x4_1 then (rd l0 x15_1) else x4_1) = ji8 := hji8
    obtain ⟨ji9, hji9⟩ : ∃ j_ : Int, (mx x5_1 (rd l0 x15_1)) = j_ := ⟨_, rfl⟩
    replace H : (impl_Calibrate.l0 k1 ji8 ji9 l0 (l0.length : Int) (wrap64 (x15_1 + 1))) = some (r1, r2, r3) := by first | (rw [hji9] at H; exact H) | (simp only [hji9] at H ⊢; exact H)
    have hji9_ : (if x5_1 < (rd l0 x15_1) then (rd l0 x15_1) else x5_1) = ji9 := hji9
    have H' := zK H
    clear H
    have p109 : 0 ≤ (x15_1 : Int) := of_decide_eq_true zA
    have q109 : x15_1 < (l0.length : Int) := of_decide_eq_true zA
    obtain ⟨ad109, e109, hx109_0⟩ := Kd.at_int HR0.out x15_1 p109 q109
    cases e109
    (try replace hx109_0 := (HB.out.cell (World.block_lt_of_cell? w _ hx109_0)).trans hx109_0)
    replace p109 := eq_true p109
    replace q109 := eq_true q109
    go_wp2
    go_roundg k1
    case measure => have := HK1.out; omega
    case rel => exact ⟨(ji8), (ji9), (wrap64 (x15_1 + 1)), (by first | rfl | (simp; done) | (simp only [← hji8] <;> (first | rfl | simp)) | (simp [*]; done)), (by first | rfl | (simp; done) | (simp only [← hji9] <;> (first | rfl | simp)) | (simp [*]; done)), zR, H', ⟨by have := HK1.out; omega⟩, ⟨by (with_reducible repeat (first | refine zn ?_ _ | refine zd ?_ | refine za ?_ _)); exact BK107.out⟩, ⟨zB⟩⟩
  rw [if_neg c5] at H
  have c5b0 : decide (x15_1 < (l0.length : Int)) = false := decide_eq_false c5
  clear c5
  obtain ⟨ji10, hji10⟩ : ∃ j_ : Int, (mx 1 (wrap64 (Int.tdiv (wrap64 ((wrap64 (x5_1 - x4_1)) + 254)) 255))) = j_ := ⟨_, rfl⟩
  replace H : ((impl_Near.f k1 (wrap64 (-x4_1)) (ji10)).bind fun t110 => (some (ji10, t110, true))) = some (r1, r2, r3) := by first | (rw [hji10] at H; exact H) | (simp only [hji10] at H ⊢; exact H)
  have hji10_ : (if 1 < (wrap64 (Int.tdiv (wrap64 ((wrap64 (x5_1 - x4_1)) + 254)) 255)) then (wrap64 (Int.tdiv (wrap64 ((wrap64 (x5_1 - x4_1)) + 254)) 255)) else 1) = ji10 := hji10
  replace H := Option.bind_eq_some_iff.mp H
  obtain ⟨t110, A110, H⟩ := H
  replace H : (some (ji10, t110, true)) = some (r1, r2, r3) := H
  have A11 := zK A110
  clear A110
  simp only [Option.some.injEq, Prod.mk.injEq] at H
  obtain ⟨rfl, rfl, rfl⟩ := H
  go_wp2_with (first | ((with_reducible refine gate_callee (f := 62) rfl ?_); refine goesL_ (some 36) rfl rfl Try.func62 (by kernel_rfl) rfl #[.int .i64 (wrap64 (-x4_1)), .int .i64 ji10] rfl (by (try simp only [List.map_toArray, List.map_cons, List.map_nil]); first | done | (simp only [hji10]; rfl) | rfl | (simp only [List.length_drop, List.length_take]; rfl)) ?_; (with_reducible refine (impl_Near.calls k1 (wrap64 (-x4_1)) ji10 t110 _ A11.out).mono ?_); rintro e w' ⟨rfl, ⟨nd, rfl⟩⟩; refine ⟨_, rfl, ?_⟩; (try (rw [drewN_self wr]; generalize hq_ : World.drewN wr _ = wr; have n0_ : Aside0 (wr.heap[gb107]? = some (.cells #[.int .i64 0, .int .i64 0] 45 (0, 0))) := ⟨by rw [← hq_]; exact (by (with_reducible repeat (first | refine zn ?_ _ | refine zd ?_ | refine za ?_ _)); exact BK107.out)⟩; have n1_ : Aside0 (Below w.heap.size w wr) := ⟨by rw [← hq_]; exact zB⟩; clear BK107 HB hq_; have BK107 := n0_; have HB := n1_; clear n0_ n1_)); have hcz12_0 : wr.cell? ⟨gb107, 0, none⟩ = some (.int .i64 0) := (zc BK107.out 0).trans rfl; have hcz12_1 : wr.cell? ⟨gb107, 1, none⟩ = some (.int .i64 0) := (zc BK107.out 1).trans rfl; have hfz12_0 := zf BK107.out 0; have hfz12_1 := zf BK107.out 1))
  refine bodyPost_ret (results_ct rfl _ _ gb107 45 #[.int .i64 ji10, .int .i64 t110] (0, 0) _ rfl (by (with_reducible repeat (first | refine zn ?_ _ | refine zd ?_ | refine za ?_ _)); refine blk_put (cs := #[.int .i64 ji10, .int .i64 0]) ?_ 1 _ rfl; (with_reducible repeat (first | refine zn ?_ _ | refine zd ?_ | refine za ?_ _)); refine blk_put (cs := #[.int .i64 0, .int .i64 0]) ?_ 0 _ rfl; (with_reducible repeat (first | refine zn ?_ _ | refine zd ?_ | refine za ?_ _)); exact BK107.out) Try.underlying45 rfl (by kernel_rfl)) rfl ?_
  exact ⟨by first | rfl | (simp [errW_none, errW_some] <;> rfl) | (simp only [← hji10]; first | rfl | (simp [errW_none, errW_some] <;> rfl)) | (simp [*, errW_none, errW_some] <;> rfl), zB⟩

/-! ### impl_bring_int: function 69 -/
def impl_bring_int.f (a0 : Int) (a1 : Int) (a2 : Int) : Option (Int) := some (mx a1 (mn a0 a2))
set_option maxHeartbeats 8000000 in
set_option maxRecDepth 100000 in
theorem impl_bring_int.calls (a0 : Int) (a1 : Int) (a2 : Int) (r : Int) (w : World) (h : impl_bring_int.f a0 a1 a2 = some r) :
    Calls Try.prog 69 #[.int .i64 a0, .int .i64 a1, .int .i64 a2] w fun e w' => e = .returned (.int .i64 r) ∧ Below w.heap.size w w' := by
  have HB := zK (Below.refl w.heap.size w)
  have H : (some (mx a1 (mn a0 a2))) = some r := h
  clear h
  obtain ⟨ji4, hji4⟩ : ∃ j_ : Int, (mn a0 a2) = j_ := ⟨_, rfl⟩
  replace H : (some (mx a1 (ji4))) = some r := by first | (rw [hji4] at H; exact H) | (simp only [hji4] at H ⊢; exact H)
  have hji4_ : (if a2 < a0 then a2 else a0) = ji4 := hji4
  obtain ⟨ji5, hji5⟩ : ∃ j_ : Int, (mx a1 (ji4)) = j_ := ⟨_, rfl⟩
  replace H : (some ji5) = some r := by first | (rw [hji5] at H; exact H) | (simp only [hji5] at H ⊢; exact H)
  have hji5_ : (if a1 < (ji4) then (ji4) else a1) = ji5 := hji5
  obtain rfl := Option.some.inj H
  go_enter Try.func69, Try.ntmps69
  go_wp2
  go_ret
  exact ⟨by first | rfl | (simp [errW_none, errW_some] <;> rfl) | (simp only [← hji4, ← hji5]; first | rfl | (simp [errW_none, errW_some] <;> rfl)) | (simp [*, errW_none, errW_some] <;> rfl), zB⟩

/-! ### impl_isByte: function 66 -/
def impl_isByte.f (a0 : Int) : Option (Bool) := (impl_within.f a0 0 255).bind fun t111 => (some t111)
set_option maxHeartbeats 8000000 in
set_option maxRecDepth 100000 in
theorem impl_isByte.calls (a0 : Int) (r : Bool) (w : World) (h : impl_isByte.f a0 = some r) :
    Calls Try.prog 66 #[.int .i64 a0] w fun e w' => e = .returned (.bool r) ∧ Drawn0 w w' := by
  have H : ((impl_within.f a0 0 255).bind fun t111 => (some t111)) = some r := h
  clear h
  replace H := Option.bind_eq_some_iff.mp H
  obtain ⟨t111, A20, H⟩ := H
  replace H : (some t111) = some r := H
  have A2 := zK A20
  clear A20
  obtain rfl := Option.some.inj H
  go_enter Try.func66, Try.ntmps66
  go_wp2_with (first | ((with_reducible refine gate_callee (f := 65) rfl ?_); refine goesL_ (some 4) rfl rfl Try.func65 (by kernel_rfl) rfl #[.int .i64 a0, .int .i64 0, .int .i64 255] rfl zL ?_; (with_reducible refine (impl_within.calls a0 0 255 t111 _ A2.out).mono ?_); rintro e w' ⟨rfl, ⟨nd, rfl⟩⟩; refine ⟨_, rfl, ?_⟩))
  go_ret
  exact ⟨zR, zD⟩

/-! ### impl_ScaleOk: function 76 -/
def impl_ScaleOk.f (a0_0 : Int) (a0_1 : Int) : Option (Bool) := (impl_within.f a0_0 1 1099511627776).bind fun t113 => (if t113 = true then ((impl_isByte.f a0_1).bind fun t114 => (some t114)) else (some false))
set_option maxHeartbeats 8000000 in
set_option maxRecDepth 100000 in
theorem impl_ScaleOk.calls (a0_0 : Int) (a0_1 : Int) (r : Bool) (w : World) (h : impl_ScaleOk.f a0_0 a0_1 = some r) :
    Calls Try.prog 76 #[.agg #[.int .i64 a0_0, .int .i64 a0_1]] w fun e w' => e = .returned (.bool r) ∧ Below w.heap.size w w' := by
  have hu45 := Try.underlying45
  have HB := zK (Below.refl w.heap.size w)
  have H : ((impl_within.f a0_0 1 1099511627776).bind fun t113 => (if t113 = true then ((impl_isByte.f a0_1).bind fun t114 => (some t114)) else (some false))) = some r := h
  clear h
  replace H := Option.bind_eq_some_iff.mp H
  obtain ⟨t113, A20, H⟩ := H
  replace H : (if t113 = true then ((impl_isByte.f a0_1).bind fun t114 => (some t114)) else (some false)) = some r := H
  have A2 := zK A20
  clear A20
  by_cases c3 : t113 = true
  rotate_left
  · replace c3 := Bool.eq_false_iff.mpr c3
    subst c3
    have H1 : (some false) = some r := by rw [if_neg (show ¬ (false = true) by decide)] at H; exact H
    clear H
    have H := H1
    clear H1
    obtain rfl := Option.some.inj H
    go_enter Try.func76, Try.ntmps76
    go_wp2_with (first | ((with_reducible refine gate_dst (N := 1) rfl ?_); refine box_event ?hg (N := 1) ?hd (cs := #[.int .i64 a0_0, .int .i64 a0_1]) (t := 45) ?hr ?_; (case hd => rfl); (case hg => rfl); (case hr => first | (go_simp; done) | (go_simp; rfl)); intro gb112 hg w7 hbox hb; have n0_ := zK (zp zB hb); have n1_ := zK (hbox); have n2_ := zK ((by rw [hg]; exact (zz zB) : w.heap.size ≤ gb112)); have n3_ := zK ((by rw [hg]; exact (zz zB) : w.heap.size ≤ gb112)); clear HB; have HB := n0_; have BK112 := n1_; have GW112 := n2_; have GE112 := n3_; clear n0_ n1_ n2_ n3_; clear hb hbox hg; have hcz8_0 : w7.cell? ⟨gb112, 0, none⟩ = some (.int .i64 a0_0) := (zc BK112.out 0).trans rfl; have hcz8_1 : w7.cell? ⟨gb112, 1, none⟩ = some (.int .i64 a0_1) := (zc BK112.out 1).trans rfl; have hfz8_0 := zf BK112.out 0; have hfz8_1 := zf BK112.out 1) | ((with_reducible refine gate_callee (f := 65) rfl ?_); refine goesL_ (some 5) rfl rfl Try.func65 (by kernel_rfl) rfl #[.int .i64 a0_0, .int .i64 1, .int .i64 1099511627776] rfl zL ?_; (with_reducible refine (impl_within.calls a0_0 1 1099511627776 false _ A2.out).mono ?_); rintro e w' ⟨rfl, ⟨nd, rfl⟩⟩; refine ⟨_, rfl, ?_⟩))
    go_ret
    exact ⟨by first | rfl | (simp [errW_none, errW_some] <;> rfl) | (simp [*, errW_none, errW_some] <;> rfl), zB⟩
  subst c3
  have H1 : ((impl_isByte.f a0_1).bind fun t114 => (some t114)) = some r := by rw [if_pos rfl] at H; exact H
  clear H
  have H := H1
  clear H1
  replace H := Option.bind_eq_some_iff.mp H
  obtain ⟨t114, A40, H⟩ := H
  replace H : (some t114) = some r := H
  have A4 := zK A40
  clear A40
  obtain rfl := Option.some.inj H
  go_enter Try.func76, Try.ntmps76
  go_wp2_with (first | ((with_reducible refine gate_dst (N := 1) rfl ?_); refine box_event ?hg (N := 1) ?hd (cs := #[.int .i64 a0_0, .int .i64 a0_1]) (t := 45) ?hr ?_; (case hd => rfl); (case hg => rfl); (case hr => first | (go_simp; done) | (go_simp; rfl)); intro gb112 hg w5 hbox hb; have n0_ := zK (zp zB hb); have n1_ := zK (hbox); have n2_ := zK ((by rw [hg]; exact (zz zB) : w.heap.size ≤ gb112)); have n3_ := zK ((by rw [hg]; exact (zz zB) : w.heap.size ≤ gb112)); clear HB; have HB := n0_; have BK112 := n1_; have GW112 := n2_; have GE112 := n3_; clear n0_ n1_ n2_ n3_; clear hb hbox hg; have hcz6_0 : w5.cell? ⟨gb112, 0, none⟩ = some (.int .i64 a0_0) := (zc BK112.out 0).trans rfl; have hcz6_1 : w5.cell? ⟨gb112, 1, none⟩ = some (.int .i64 a0_1) := (zc BK112.out 1).trans rfl; have hfz6_0 := zf BK112.out 0; have hfz6_1 := zf BK112.out 1) | ((with_reducible refine gate_callee (f := 65) rfl ?_); refine goesL_ (some 5) rfl rfl Try.func65 (by kernel_rfl) rfl #[.int .i64 a0_0, .int .i64 1, .int .i64 1099511627776] rfl zL ?_; (with_reducible refine (impl_within.calls a0_0 1 1099511627776 true _ A2.out).mono ?_); rintro e w' ⟨rfl, ⟨nd, rfl⟩⟩; refine ⟨_, rfl, ?_⟩) | (go_at_call 66; (with_reducible refine (impl_isByte.calls a0_1 t114 _ A4.out).mono ?_); rintro e w' ⟨rfl, ⟨nd, rfl⟩⟩))
  go_ret
  exact ⟨by first | rfl | (simp [errW_none, errW_some] <;> rfl) | (simp [*, errW_none, errW_some] <;> rfl), zB⟩

/-! ### impl_Quantise: function 63 -/
def impl_Quantise.j0 : Nat → Int → Bool → Int → Int → Option (Int)
  | 0, _, _, _, _ => none
  | k + 1, x1, x12, x116000, x116001 => if x12 = true then (some 0) else ((impl_Near.f k x1 x116000).bind fun t118 => ((impl_bring_int.f (wrap64 (x116001 + t118)) 0 255).bind fun t119 => (some t119)))
def impl_Quantise.f (k : Nat) (a0_0 : Int) (a0_1 : Int) (a1 : Int) : Option (Int) := (impl_ScaleOk.f a0_0 a0_1).bind fun t116 => (if t116 = true then ((impl_isReal.f a1).bind fun t117 => (impl_Quantise.j0 k a1 (!t117) a0_0 a0_1)) else (impl_Quantise.j0 k a1 true a0_0 a0_1))
theorem impl_Quantise.mono_l : ∀ k, (∀ y0 y1 y2 y3, LeO (impl_Quantise.j0 k y0 y1 y2 y3) (impl_Quantise.j0 (k + 1) y0 y1 y2 y3))
  | 0 => fun _ _ _ _ r h => by simp [impl_Quantise.j0] at h
  | k + 1 => by
    have ih0 := impl_Quantise.mono_l k
    · intro y0 y1 y2 y3
      unfold impl_Quantise.j0
      repeat' first
      | (with_reducible exact ih0 _ _ _ _)
      | (with_reducible exact impl_Near.mono _ _ _)
      | (with_reducible exact LeO.refl _)
      | (with_reducible exact LeO.none _)
      | (with_reducible refine LeO.ite ?_ ?_)
      | (with_reducible refine LeO.bind ?_ (fun _ => ?_))
      | exact ih0 _ _ _ _
      | exact impl_Near.mono _ _ _
      | exact LeO.none _
      | refine LeO.ite ?_ ?_
      | refine LeO.bind ?_ (fun _ => ?_)
theorem impl_Quantise.mono : ∀ a0 a1 a2 k, LeO (impl_Quantise.f k a0 a1 a2) (impl_Quantise.f (k + 1) a0 a1 a2) := by
  intro a0 a1 a2 k
  have ih0 := impl_Quantise.mono_l k
  unfold impl_Quantise.f
  repeat' first
      | (with_reducible exact ih0 _ _ _ _)
      | (with_reducible exact impl_Near.mono _ _ _)
      | (with_reducible exact LeO.refl _)
      | (with_reducible exact LeO.none _)
      | (with_reducible refine LeO.ite ?_ ?_)
      | (with_reducible refine LeO.bind ?_ (fun _ => ?_))
      | exact ih0 _ _ _ _
      | exact impl_Near.mono _ _ _
      | exact LeO.none _
      | refine LeO.ite ?_ ?_
      | refine LeO.bind ?_ (fun _ => ?_)
def impl_Quantise.T3 : Bool × List (List Nat × List Nat) := (true, [([], []), ([0], [0]), ([], []), ([], []), ([3], [3]), ([2, 4], [2, 4]), ([1, 5], [1, 5]), ([6, 5], [6]), ([7, 7, 0, 1, 2, 3, 4, 5, 6, 7], [7])])
def impl_Quantise.B3 : List Nat := [0, 1, 0, 0, 8, 28, 63, 127, 255]
theorem impl_Quantise.tab3 : rtab .any (opsOf Try.f63 3) = impl_Quantise.T3 := by kernel_rfl
theorem impl_Quantise.bits3 : waitsOk impl_Quantise.T3.2 impl_Quantise.B3 = true := by kernel_rfl
set_option maxHeartbeats 8000000 in
set_option maxRecDepth 100000 in
theorem impl_Quantise.calls (k : Nat) (a0_0 : Int) (a0_1 : Int) (a1 : Int) (r : Int) (w : World) (h : impl_Quantise.f k a0_0 a0_1 a1 = some r) :
    Calls Try.prog 63 #[.agg #[.int .i64 a0_0, .int .i64 a0_1], .int .i64 a1] w fun e w' => e = .returned (.int .i64 r) ∧ Below w.heap.size w w' := by
  have hu45 := Try.underlying45
  have HB := zK (Below.refl w.heap.size w)
  have H : ((impl_ScaleOk.f a0_0 a0_1).bind fun t116 => (if t116 = true then ((impl_isReal.f a1).bind fun t117 => (impl_Quantise.j0 k a1 (!t117) a0_0 a0_1)) else (impl_Quantise.j0 k a1 true a0_0 a0_1))) = some r := h
  clear h
  have HC3 := zK H
  clear H
  go_enter Try.func63, Try.ntmps63
  go_upto_region 1 with (first | ((with_reducible refine gate_dst (N := 2) rfl ?_); refine box_event ?hg (N := 2) ?hd (cs := #[.int .i64 a0_0, .int .i64 a0_1]) (t := 45) ?hr ?_; (case hd => rfl); (case hg => rfl); (case hr => first | (go_simp; done) | (go_simp; rfl)); intro gb115 hg w4 hbox hb; have n0_ := zK (zp zB hb); have n1_ := zK (hbox); have n2_ := zK ((by rw [hg]; exact (zz zB) : w.heap.size ≤ gb115)); have n3_ := zK ((by rw [hg]; exact (zz zB) : w.heap.size ≤ gb115)); clear HB; have HB := n0_; have BK115 := n1_; have GW115 := n2_; have GE115 := n3_; clear n0_ n1_ n2_ n3_; clear hb hbox hg))
  (try simp only [Act.put, List.setIfInBounds_toArray, List.set_cons_zero, List.set_cons_succ])
  go_cut [12] (fun v12 wc => ∃ (kq : Nat) (x12_2 : Bool), v12 = .bool x12_2 ∧ Aside0 (impl_Quantise.j0 kq a1 x12_2 a0_0 a0_1 = some r) ∧ Aside0 (kq ≤ k) ∧ Aside0 (wc.heap[gb115]? = some (.cells #[.int .i64 a0_0, .int .i64 a0_1] 45 (0, 0))) ∧ Aside0 (Below w.heap.size w wc))
  case first =>
   have H := HC3.out
   clear HC3
   replace H := Option.bind_eq_some_iff.mp H
   obtain ⟨t116, A50, H⟩ := H
   replace H : (if t116 = true then ((impl_isReal.f a1).bind fun t117 => (impl_Quantise.j0 k a1 (!t117) a0_0 a0_1)) else (impl_Quantise.j0 k a1 true a0_0 a0_1)) = some r := H
   have A5 := zK A50
   clear A50
   by_cases c6 : t116 = true
   rotate_left
   · replace c6 := Bool.eq_false_iff.mpr c6
     subst c6
     have H1 : (impl_Quantise.j0 k a1 true a0_0 a0_1) = some r := by rw [if_neg (show ¬ (false = true) by decide)] at H; exact H
     clear H
     have H := H1
     clear H1
     have H' := zK H
     clear H
     have hcz10_0 : w4.cell? ⟨gb115, 0, none⟩ = some (.int .i64 a0_0) := (zc BK115.out 0).trans rfl
     have hcz10_1 : w4.cell? ⟨gb115, 1, none⟩ = some (.int .i64 a0_1) := (zc BK115.out 1).trans rfl
     have hfz10_0 := zf BK115.out 0
     have hfz10_1 := zf BK115.out 1
     go_wp2_with (first | ((with_reducible refine gate_callee (f := 76) rfl ?_); refine goesL_ (some 6) rfl rfl Try.func76 (by kernel_rfl) rfl #[.agg #[.int .i64 a0_0, .int .i64 a0_1]] rfl zL ?_; (with_reducible refine (impl_ScaleOk.calls a0_0 a0_1 false _ A5.out).mono ?_); rintro e w11 ⟨rfl, hb⟩; refine ⟨_, rfl, ?_⟩; have n0_ := zK (zg (g := gb115) (o := .cells #[.int .i64 a0_0, .int .i64 a0_1] 45 (0, 0)) (by (with_reducible repeat (first | refine zn ?_ _ | refine zd ?_ | refine za ?_ _)); exact BK115.out) hb); have n1_ := zK (zp zB hb); clear BK115; clear HB; have BK115 := n0_; have HB := n1_; clear n0_ n1_; (try clear hb); (try clear hb2); (try clear hk); (try clear hi)))
     go_meet
     case rel => exact ⟨_, (true), zR, H', ⟨by first | omega | exact Nat.le_refl _⟩, ⟨by (with_reducible repeat (first | refine zn ?_ _ | refine zd ?_ | refine za ?_ _)); exact BK115.out⟩, ⟨zB⟩⟩
   subst c6
   have H1 : ((impl_isReal.f a1).bind fun t117 => (impl_Quantise.j0 k a1 (!t117) a0_0 a0_1)) = some r := by rw [if_pos rfl] at H; exact H
   clear H
   have H := H1
   clear H1
   replace H := Option.bind_eq_some_iff.mp H
   obtain ⟨t117, A70, H⟩ := H
   replace H : (impl_Quantise.j0 k a1 (!t117) a0_0 a0_1) = some r := H
   have A7 := zK A70
   clear A70
   have H' := zK H
   clear H
   have hcz8_0 : w4.cell? ⟨gb115, 0, none⟩ = some (.int .i64 a0_0) := (zc BK115.out 0).trans rfl
   have hcz8_1 : w4.cell? ⟨gb115, 1, none⟩ = some (.int .i64 a0_1) := (zc BK115.out 1).trans rfl
   have hfz8_0 := zf BK115.out 0
   have hfz8_1 := zf BK115.out 1
   go_wp2_with (first | ((with_reducible refine gate_callee (f := 76) rfl ?_); refine goesL_ (some 6) rfl rfl Try.func76 (by kernel_rfl) rfl #[.agg #[.int .i64 a0_0, .int .i64 a0_1]] rfl zL ?_; (with_reducible refine (impl_ScaleOk.calls a0_0 a0_1 true _ A5.out).mono ?_); rintro e w9 ⟨rfl, hb⟩; refine ⟨_, rfl, ?_⟩; have n0_ := zK (zg (g := gb115) (o := .cells #[.int .i64 a0_0, .int .i64 a0_1] 45 (0, 0)) (by (with_reducible repeat (first | refine zn ?_ _ | refine zd ?_ | refine za ?_ _)); exact BK115.out) hb); have n1_ := zK (zp zB hb); clear BK115; clear HB; have BK115 := n0_; have HB := n1_; clear n0_ n1_; (try clear hb); (try clear hb2); (try clear hk); (try clear hi)) | (go_at_call 115; (with_reducible refine (impl_isReal.calls a1 t117 _ A7.out).mono ?_); rintro e w' ⟨rfl, ⟨nd, rfl⟩⟩))
   go_meet
   case rel => exact ⟨_, (!t117), zR, H', ⟨by first | omega | exact Nat.le_refl _⟩, ⟨by (with_reducible repeat (first | refine zn ?_ _ | refine zd ?_ | refine za ?_ _)); exact BK115.out⟩, ⟨zB⟩⟩
  case rest =>
   clear HC3
   try clear p2
   try clear c6
   try clear c7
   try clear hcz10_0
   try clear hcz10_1
   try clear hcz8_0
   try clear hcz8_1
   try clear hfz10_0
   try clear hfz10_1
   try clear hfz8_0
   try clear hfz8_1
   obtain ⟨kq, x12_2, rfl, HA, HJ2, BK115, HB⟩ := hcut
   cases kq with
   | zero => exact absurd HA.out (by simp [impl_Quantise.j0])
   | succ kj2 =>
    have H := HA.out
    clear HA
    simp only [impl_Quantise.j0] at H
    by_cases c12 : x12_2 = true
    · subst c12
      have H1 : (some 0) = some r := by rw [if_pos rfl] at H; exact H
      clear H
      have H := H1
      clear H1
      obtain rfl := Option.some.inj H
      go_wp2
      go_ret
      exact ⟨by first | rfl | (simp [errW_none, errW_some] <;> rfl) | (simp [*, errW_none, errW_some] <;> rfl), zB⟩
    replace c12 := Bool.eq_false_iff.mpr c12
    subst c12
    have H1 : ((impl_Near.f kj2 a1 a0_0).bind fun t118 => ((impl_bring_int.f (wrap64 (a0_1 + t118)) 0 255).bind fun t119 => (some t119))) = some r := by rw [if_neg (show ¬ (false = true) by decide)] at H; exact H
    clear H
    have H := H1
    clear H1
    replace H := Option.bind_eq_some_iff.mp H
    obtain ⟨t118, A130, H⟩ := H
    replace H : ((impl_bring_int.f (wrap64 (a0_1 + t118)) 0 255).bind fun t119 => (some t119)) = some r := H
    have A13 := zK A130
    clear A130
    replace H := Option.bind_eq_some_iff.mp H
    obtain ⟨t119, A140, H⟩ := H
    replace H : (some t119) = some r := H
    have A14 := zK A140
    clear A140
    obtain rfl := Option.some.inj H
    try go_wp2
    have n0_ := zK (zd BK115.out)
    have n1_ := zK (ze HB.out)
    clear BK115
    clear HB
    have BK115 := n0_
    have HB := n1_
    clear n0_ n1_
    refine start_ (n := 9) (S := fun w' => w'.cell? ⟨gb115, 0, none⟩ = some (.int .i64 a0_0) ∧ w'.cell? ⟨gb115, 1, none⟩ = some (.int .i64 a0_1)) (ds := []) #[false, false, false, false, false, false, false, false, false] (by kernel_rfl) rfl rfl ⟨(zc BK115.out 0).trans rfl, (zc BK115.out 1).trans rfl⟩ (fun hHeld => ?_); refine with_tabW impl_Quantise.tab3 impl_Quantise.bits3 (fun HT_ HW_ => ?_)
    generalize wc.drew = w15 at BK115 HB hHeld ⊢
    refine pure_ (i := 0) (N := some 13) (v := ?_) (a' := ?_) #[true, false, false, false, false, false, false, false, false] rfl rfl (any_of HT_.out (by kernel_rfl)) (fun _ _ _ h => h) (Or.inl ⟨by rfl, ?_⟩) ?_ ?_
    rotate_left
    · intro w'
      go_simp
      with_reducible rfl
    rotate_left
    · simp only [Act.put, List.setIfInBounds_toArray, List.set_cons_zero, List.set_cons_succ, i64_w, i32_w]
      rfl
    refine pure_ (i := 2) (N := some 15) (v := ?_) (a' := ?_) #[true, false, true, false, false, false, false, false, false] rfl rfl (any_of HT_.out (by kernel_rfl)) (fun _ _ _ h => h) (Or.inl ⟨by rfl, ?_⟩) ?_ ?_
    rotate_left
    · intro w'
      go_simp
      with_reducible rfl
    rotate_left
    · simp only [Act.put, List.setIfInBounds_toArray, List.set_cons_zero, List.set_cons_succ, i64_w, i32_w]
      rfl
    refine pure_ (i := 3) (N := some 16) (v := ?_) (a' := ?_) #[true, false, true, true, false, false, false, false, false] rfl rfl (any_of HT_.out (by kernel_rfl)) (fun _ _ _ h => h) (Or.inl ⟨by rfl, ?_⟩) ?_ ?_
    rotate_left
    · intro w'
      go_simp
      with_reducible rfl
    rotate_left
    · simp only [Act.put, List.setIfInBounds_toArray, List.set_cons_zero, List.set_cons_succ, i64_w, i32_w]
      rfl
    refine take_ (i := 1) (N := some 14) (v := ?_) (a' := ?_) #[true, true, true, true, false, false, false, false, false] rfl rfl (take_ofW HT_.out HW_.out (by kernel_rfl)) (fun _ _ _ h => h) (Or.inl ⟨by rfl, ?_⟩) hHeld ?_ ?_
    rotate_left
    · rintro w' ⟨s0, s1⟩
      go_simp
      with_reducible rfl
    rotate_left
    · simp only [Act.put, List.setIfInBounds_toArray, List.set_cons_zero, List.set_cons_succ, i64_w, i32_w]
      rfl
    refine take_ (i := 4) (N := some 17) (v := ?_) (a' := ?_) #[true, true, true, true, true, false, false, false, false] rfl rfl (take_ofW HT_.out HW_.out (by kernel_rfl)) (fun _ _ _ h => h) (Or.inl ⟨by rfl, ?_⟩) hHeld ?_ ?_
    rotate_left
    · rintro w' ⟨s0, s1⟩
      go_simp
      with_reducible rfl
    rotate_left
    · simp only [Act.put, List.setIfInBounds_toArray, List.set_cons_zero, List.set_cons_succ, i64_w, i32_w]
      rfl
    refine one_ (i := 5) (N := some 18) #[true, true, true, true, true, true, false, false, false] rfl rfl (one_of HT_.out (by kernel_rfl)) (by decide) (fun K hK => ?_)
    refine goes_ Try.func62 (by kernel_rfl) rfl #[.int .i64 a1, .int .i64 a0_0] (by rfl) rfl rfl zL ?_
    with_reducible refine (impl_Near.calls kj2 a1 a0_0 t118 _ A13.out).mono ?_
    rintro e w' ⟨rfl, ⟨nd, rfl⟩⟩
    refine ⟨_, rfl, ?_⟩
    refine hK.out _ _ ⟨(zc BK115.out 0).trans rfl, (zc BK115.out 1).trans rfl⟩ (fun hHeld => ?_)
    clear hK K
    refine norm_ (a' := ?_) ?_ ?_
    rotate_left
    · show Act.put _ (some 18) _ = _
      simp only [Act.put, List.setIfInBounds_toArray, List.set_cons_zero, List.set_cons_succ, i64_w, i32_w]
      rfl
    refine pure_ (i := 6) (N := some 19) (v := ?_) (a' := ?_) #[true, true, true, true, true, true, true, false, false] rfl rfl (any_of HT_.out (by kernel_rfl)) (fun _ _ _ h => h) (Or.inl ⟨by rfl, ?_⟩) ?_ ?_
    rotate_left
    · intro w'
      go_simp
      with_reducible rfl
    rotate_left
    · simp only [Act.put, List.setIfInBounds_toArray, List.set_cons_zero, List.set_cons_succ, i64_w, i32_w]
      rfl
    refine one_ (i := 7) (N := some 20) #[true, true, true, true, true, true, true, true, false] rfl rfl (one_of HT_.out (by kernel_rfl)) (by decide) (fun K hK => ?_)
    refine goes_ Try.func69 (by kernel_rfl) rfl #[.int .i64 (wrap64 (a0_1 + t118)), .int .i64 0, .int .i64 255] (by rfl) rfl rfl zL ?_
    with_reducible refine (impl_bring_int.calls (wrap64 (a0_1 + t118)) 0 255 t119 _ A14.out).mono ?_
    rintro e w16 ⟨rfl, hb⟩
    refine ⟨_, rfl, ?_⟩
    have n0_ := zK (zg (g := gb115) (o := .cells #[.int .i64 a0_0, .int .i64 a0_1] 45 (0, 0)) (by (with_reducible repeat (first | refine zn ?_ _ | refine zd ?_ | refine za ?_ _)); exact BK115.out) hb)
    have n1_ := zK (zp zB hb)
    clear BK115
    clear HB
    have BK115 := n0_
    have HB := n1_
    clear n0_ n1_
    (try clear hb)
    (try clear hb2)
    (try clear hk)
    (try clear hi)
    refine hK.out _ _ ⟨(zc BK115.out 0).trans rfl, (zc BK115.out 1).trans rfl⟩ (fun hHeld => ?_)
    clear hK K
    refine norm_ (a' := ?_) ?_ ?_
    rotate_left
    · show Act.put _ (some 20) _ = _
      simp only [Act.put, List.setIfInBounds_toArray, List.set_cons_zero, List.set_cons_succ, i64_w, i32_w]
      rfl
    refine pure_ (i := 8) (N := some 4) (v := ?_) (a' := ?_) #[true, true, true, true, true, true, true, true, true] rfl rfl (any_of HT_.out (by kernel_rfl)) (fun _ _ _ h => h) (Or.inl ⟨by rfl, ?_⟩) ?_ ?_
    rotate_left
    · intro w'
      go_simp
      with_reducible rfl
    rotate_left
    · simp only [Act.put, List.setIfInBounds_toArray, List.set_cons_zero, List.set_cons_succ, i64_w, i32_w]
      rfl
    refine done_ (done_of HT_.out (by kernel_rfl)) ?_
    try go_wp2
    go_ret
    exact ⟨by first | rfl | (simp [errW_none, errW_some] <;> rfl) | (simp [*, errW_none, errW_some] <;> rfl), zB⟩

end Go.Proofs.Ytemcipcijhkhjaa.PFnMatBound
