-- Printed out of the translation by this session's own turned copy of a printer; Lean checks it.
import Derived.Test.YtkfagiojcjnfkaaPFnExactNestOkx0
namespace Go.Proofs.Ytkfagiojcjnfkaa.PFnExactNestOk
open Go.RowKit Go.Proofs.YtkfagiojcjnfkaaW.PrintWords Go.Proofs.YtkfagiojcjnfkaaW.PrintLast Go.Proofs.YtkfagiojcjnfkaaW.PrintMore
attribute [local go_sem] max2_int min2_int max_two min_two max_three min_three max_four min_four   -- for this text's walks alone
set_option linter.unusedVariables false
set_option linter.unusedSimpArgs false

/-! ### spec_l4Within: function 85 -/
def spec_l4Within.l0 : Nat → List Int → Int → Int → Option (Bool)
  | 0, _, _, _ => none
  | k + 1, x0, x1, x5 => if x5 < (x0.length : Int) then (if 0 ≤ x5 then (if (rd x0 x5) < 0 then (some false) else (if (rd x0 x5) ≥ x1 then (some false) else (spec_l4Within.l0 k x0 x1 (wrap64 (x5 + 1))))) else (none)) else (some true)
def spec_l4Within.f (k : Nat) (l0 : List Int) (a1 : Int) : Option (Bool) := spec_l4Within.l0 k l0 a1 0
theorem spec_l4Within.mono_l : ∀ k, (∀ y0 y1 y2, LeO (spec_l4Within.l0 k y0 y1 y2) (spec_l4Within.l0 (k + 1) y0 y1 y2))
  | 0 => fun _ _ _ r h => by simp [spec_l4Within.l0] at h
  | k + 1 => by
    have ih0 := spec_l4Within.mono_l k
    · intro y0 y1 y2
      unfold spec_l4Within.l0
      repeat' first
      | (with_reducible exact ih0 _ _ _)
      | (with_reducible exact LeO.refl _)
      | (with_reducible exact LeO.none _)
      | (with_reducible refine LeO.ite ?_ ?_)
      | (with_reducible refine LeO.bind ?_ (fun _ => ?_))
      | exact ih0 _ _ _
      | exact LeO.none _
      | refine LeO.ite ?_ ?_
      | refine LeO.bind ?_ (fun _ => ?_)
theorem spec_l4Within.mono : ∀ a0 a1 k, LeO (spec_l4Within.f k a0 a1) (spec_l4Within.f (k + 1) a0 a1) := by
  intro a0 a1 k
  have ih0 := spec_l4Within.mono_l k
  unfold spec_l4Within.f
  repeat' first
      | (with_reducible exact ih0 _ _ _)
      | (with_reducible exact LeO.refl _)
      | (with_reducible exact LeO.none _)
      | (with_reducible refine LeO.ite ?_ ?_)
      | (with_reducible refine LeO.bind ?_ (fun _ => ?_))
      | exact ih0 _ _ _
      | exact LeO.none _
      | refine LeO.ite ?_ ?_
      | refine LeO.bind ?_ (fun _ => ?_)
set_option maxHeartbeats 8000000 in
set_option maxRecDepth 100000 in
theorem spec_l4Within.calls (k : Nat) (A0 : Option Addr) (c0 : Nat) (l0 : List Int) (a1 : Int) (r : Bool) (w : World) (hr0 : Kd.C (Kd.int .i64) w A0 l0.length l0) (hc0 : l0.length ≤ c0) (h : spec_l4Within.f k l0 a1 = some r) :
    Calls Try.prog 85 #[.slice A0 l0.length c0, .int .i64 a1] w fun e w' => e = .returned (.bool r) ∧ Drawn0 w w' := by
  have HR0 := zK hr0
  have HC0 := zK hc0
  clear hr0 hc0
  have H : (spec_l4Within.l0 k l0 a1 0) = some r := h
  clear h
  have H' := zK H
  clear H
  go_enter Try.func85, Try.ntmps85
  go_wp2
  go_loopg [5] k (fun kq v5 w' => ∃ (x5_1 : Int), v5 = .int .i64 x5_1 ∧ Aside0 (spec_l4Within.l0 kq l0 a1 x5_1 = some r) ∧ Aside0 (kq ≤ k) ∧ Drawn0 w w')
  case atStart => exact ⟨(0), zR, H', ⟨Nat.le_refl _⟩, zD⟩
  clear H'
  try clear p2
  obtain ⟨x5_1, rfl, HA, HK1, ⟨m1, rfl⟩⟩ := hrel
  rcases gk with _ | k1
  · exact absurd HA.out (by simp [spec_l4Within.l0])
  have H := HA.out
  clear HA
  simp only [spec_l4Within.l0] at H
  by_cases c3 : x5_1 < (l0.length : Int)
  rotate_left
  · rw [if_neg c3] at H
    have c3b0 : decide (x5_1 < (l0.length : Int)) = false := decide_eq_false c3
    clear c3
    obtain rfl := Option.some.inj H
    go_wp2
    go_ret
    exact ⟨zR, zD⟩
  rw [if_pos c3] at H
  have c3b0 : decide (x5_1 < (l0.length : Int)) = true := decide_eq_true c3
  clear c3
  by_cases c4 : 0 ≤ x5_1
  rotate_left
  · rw [if_neg c4] at H
    exact absurd H (by simp)
  rw [if_pos c4] at H
  have c4b0 : decide (0 ≤ x5_1) = true := decide_eq_true c4
  clear c4
  by_cases c5 : (rd l0 x5_1) < 0
  · rw [if_pos c5] at H
    have c5b0 : decide ((rd l0 x5_1) < 0) = true := decide_eq_true c5
    clear c5
    obtain rfl := Option.some.inj H
    have p122 : 0 ≤ (x5_1 : Int) := of_decide_eq_true zA
    have q122 : x5_1 < (l0.length : Int) := of_decide_eq_true zA
    obtain ⟨ad122, e122, hx122_0⟩ := Kd.at_int HR0.out x5_1 p122 q122
    cases e122
    replace p122 := eq_true p122
    replace q122 := eq_true q122
    go_wp2
    go_ret
    exact ⟨zR, zD⟩
  rw [if_neg c5] at H
  have c5b0 : decide ((rd l0 x5_1) < 0) = false := decide_eq_false c5
  clear c5
  by_cases c6 : (rd l0 x5_1) ≥ a1
  · rw [if_pos c6] at H
    have c6b0 : decide (a1 ≤ (rd l0 x5_1)) = true := decide_eq_true c6
    clear c6
    obtain rfl := Option.some.inj H
    have p122 : 0 ≤ (x5_1 : Int) := of_decide_eq_true zA
    have q122 : x5_1 < (l0.length : Int) := of_decide_eq_true zA
    obtain ⟨ad122, e122, hx122_0⟩ := Kd.at_int HR0.out x5_1 p122 q122
    cases e122
    replace p122 := eq_true p122
    replace q122 := eq_true q122
    have p123 : 0 ≤ (x5_1 : Int) := of_decide_eq_true zA
    have q123 : x5_1 < (l0.length : Int) := of_decide_eq_true zA
    obtain ⟨ad123, e123, hx123_0⟩ := Kd.at_int HR0.out x5_1 p123 q123
    obtain rfl : ad122 = ad123 := (by injection e123)
    replace p123 := eq_true p123
    replace q123 := eq_true q123
    go_wp2
    go_ret
    exact ⟨zR, zD⟩
  rw [if_neg c6] at H
  have c6b0 : decide (a1 ≤ (rd l0 x5_1)) = false := decide_eq_false c6
  clear c6
  have H' := zK H
  clear H
  have p122 : 0 ≤ (x5_1 : Int) := of_decide_eq_true zA
  have q122 : x5_1 < (l0.length : Int) := of_decide_eq_true zA
  obtain ⟨ad122, e122, hx122_0⟩ := Kd.at_int HR0.out x5_1 p122 q122
  cases e122
  replace p122 := eq_true p122
  replace q122 := eq_true q122
  have p123 : 0 ≤ (x5_1 : Int) := of_decide_eq_true zA
  have q123 : x5_1 < (l0.length : Int) := of_decide_eq_true zA
  obtain ⟨ad123, e123, hx123_0⟩ := Kd.at_int HR0.out x5_1 p123 q123
  obtain rfl : ad122 = ad123 := (by injection e123)
  replace p123 := eq_true p123
  replace q123 := eq_true q123
  go_wp2
  go_roundg k1
  case measure => have := HK1.out; omega
  case rel => exact ⟨(wrap64 (x5_1 + 1)), zR, H', ⟨by have := HK1.out; omega⟩, zD⟩

/-! ### spec_l7Has: function 86 -/
def spec_l7Has.l0 : Nat → List Int → Int → Int → Option (Bool)
  | 0, _, _, _ => none
  | k + 1, x0, x1, x5 => if x5 < (x0.length : Int) then (if 0 ≤ x5 then (if (rd x0 x5) = x1 then (some true) else (spec_l7Has.l0 k x0 x1 (wrap64 (x5 + 1)))) else (none)) else (some false)
def spec_l7Has.f (k : Nat) (l0 : List Int) (a1 : Int) : Option (Bool) := spec_l7Has.l0 k l0 a1 0
theorem spec_l7Has.mono_l : ∀ k, (∀ y0 y1 y2, LeO (spec_l7Has.l0 k y0 y1 y2) (spec_l7Has.l0 (k + 1) y0 y1 y2))
  | 0 => fun _ _ _ r h => by simp [spec_l7Has.l0] at h
  | k + 1 => by
    have ih0 := spec_l7Has.mono_l k
    · intro y0 y1 y2
      unfold spec_l7Has.l0
      repeat' first
      | (with_reducible exact ih0 _ _ _)
      | (with_reducible exact LeO.refl _)
      | (with_reducible exact LeO.none _)
      | (with_reducible refine LeO.ite ?_ ?_)
      | (with_reducible refine LeO.bind ?_ (fun _ => ?_))
      | exact ih0 _ _ _
      | exact LeO.none _
      | refine LeO.ite ?_ ?_
      | refine LeO.bind ?_ (fun _ => ?_)
theorem spec_l7Has.mono : ∀ a0 a1 k, LeO (spec_l7Has.f k a0 a1) (spec_l7Has.f (k + 1) a0 a1) := by
  intro a0 a1 k
  have ih0 := spec_l7Has.mono_l k
  unfold spec_l7Has.f
  repeat' first
      | (with_reducible exact ih0 _ _ _)
      | (with_reducible exact LeO.refl _)
      | (with_reducible exact LeO.none _)
      | (with_reducible refine LeO.ite ?_ ?_)
      | (with_reducible refine LeO.bind ?_ (fun _ => ?_))
      | exact ih0 _ _ _
      | exact LeO.none _
      | refine LeO.ite ?_ ?_
      | refine LeO.bind ?_ (fun _ => ?_)
set_option maxHeartbeats 8000000 in
set_option maxRecDepth 100000 in
theorem spec_l7Has.calls (k : Nat) (A0 : Option Addr) (c0 : Nat) (l0 : List Int) (a1 : Int) (r : Bool) (w : World) (hr0 : Kd.C (Kd.int .i64) w A0 l0.length l0) (hc0 : l0.length ≤ c0) (h : spec_l7Has.f k l0 a1 = some r) :
    Calls Try.prog 86 #[.slice A0 l0.length c0, .int .i64 a1] w fun e w' => e = .returned (.bool r) ∧ Drawn0 w w' := by
  have HR0 := zK hr0
  have HC0 := zK hc0
  clear hr0 hc0
  have H : (spec_l7Has.l0 k l0 a1 0) = some r := h
  clear h
  have H' := zK H
  clear H
  go_enter Try.func86, Try.ntmps86
  go_wp2
  go_loopg [5] k (fun kq v5 w' => ∃ (x5_1 : Int), v5 = .int .i64 x5_1 ∧ Aside0 (spec_l7Has.l0 kq l0 a1 x5_1 = some r) ∧ Aside0 (kq ≤ k) ∧ Drawn0 w w')
  case atStart => exact ⟨(0), zR, H', ⟨Nat.le_refl _⟩, zD⟩
  clear H'
  try clear p2
  obtain ⟨x5_1, rfl, HA, HK1, ⟨m1, rfl⟩⟩ := hrel
  rcases gk with _ | k1
  · exact absurd HA.out (by simp [spec_l7Has.l0])
  have H := HA.out
  clear HA
  simp only [spec_l7Has.l0] at H
  by_cases c3 : x5_1 < (l0.length : Int)
  rotate_left
  · rw [if_neg c3] at H
    have c3b0 : decide (x5_1 < (l0.length : Int)) = false := decide_eq_false c3
    clear c3
    obtain rfl := Option.some.inj H
    go_wp2
    go_ret
    exact ⟨zR, zD⟩
  rw [if_pos c3] at H
  have c3b0 : decide (x5_1 < (l0.length : Int)) = true := decide_eq_true c3
  clear c3
  by_cases c4 : 0 ≤ x5_1
  rotate_left
  · rw [if_neg c4] at H
    exact absurd H (by simp)
  rw [if_pos c4] at H
  have c4b0 : decide (0 ≤ x5_1) = true := decide_eq_true c4
  clear c4
  by_cases c5 : (rd l0 x5_1) = a1
  · rw [if_pos c5] at H
    have c5b0 : ((rd l0 x5_1) == a1) = true := beq_iff_eq.mpr c5
    have c5b1 : ((rd l0 x5_1) != a1) = false := bne_eq_false_iff_eq.mpr c5
    clear c5
    obtain rfl := Option.some.inj H
    have p124 : 0 ≤ (x5_1 : Int) := of_decide_eq_true zA
    have q124 : x5_1 < (l0.length : Int) := of_decide_eq_true zA
    obtain ⟨ad124, e124, hx124_0⟩ := Kd.at_int HR0.out x5_1 p124 q124
    cases e124
    replace p124 := eq_true p124
    replace q124 := eq_true q124
    go_wp2
    go_ret
    exact ⟨zR, zD⟩
  rw [if_neg c5] at H
  have c5b0 : ((rd l0 x5_1) == a1) = false := beq_eq_false_iff_ne.mpr c5
  have c5b1 : ((rd l0 x5_1) != a1) = true := bne_iff_ne.mpr c5
  have H' := zK H
  clear H
  have p124 : 0 ≤ (x5_1 : Int) := of_decide_eq_true zA
  have q124 : x5_1 < (l0.length : Int) := of_decide_eq_true zA
  obtain ⟨ad124, e124, hx124_0⟩ := Kd.at_int HR0.out x5_1 p124 q124
  cases e124
  replace p124 := eq_true p124
  replace q124 := eq_true q124
  go_wp2
  go_roundg k1
  case measure => have := HK1.out; omega
  case rel => exact ⟨(wrap64 (x5_1 + 1)), zR, H', ⟨by have := HK1.out; omega⟩, zD⟩

/-! ### spec_l5RowOk: function 87 -/
def spec_l5RowOk.l0 : Nat → List Int → Int → Option (Bool)
  | 0, _, _ => none
  | k + 1, x0, x3 => if x3 < (x0.length : Int) then (if 0 ≤ x3 then (if (rd x0 x3) < 0 then (some false) else (if (rd x0 x3) ≥ 2147483647 then (some false) else (spec_l5RowOk.l0 k x0 (wrap64 (x3 + 1))))) else (none)) else (if (x0.length : Int) > 0 then (some (decide ((x0.length : Int) ≤ 4096))) else (some false))
def spec_l5RowOk.f (k : Nat) (l0 : List Int) : Option (Bool) := spec_l5RowOk.l0 k l0 0
theorem spec_l5RowOk.mono_l : ∀ k, (∀ y0 y1, LeO (spec_l5RowOk.l0 k y0 y1) (spec_l5RowOk.l0 (k + 1) y0 y1))
  | 0 => fun _ _ r h => by simp [spec_l5RowOk.l0] at h
  | k + 1 => by
    have ih0 := spec_l5RowOk.mono_l k
    · intro y0 y1
      unfold spec_l5RowOk.l0
      repeat' first
      | (with_reducible exact ih0 _ _)
      | (with_reducible exact LeO.refl _)
      | (with_reducible exact LeO.none _)
      | (with_reducible refine LeO.ite ?_ ?_)
      | (with_reducible refine LeO.bind ?_ (fun _ => ?_))
      | exact ih0 _ _
      | exact LeO.none _
      | refine LeO.ite ?_ ?_
      | refine LeO.bind ?_ (fun _ => ?_)
theorem spec_l5RowOk.mono : ∀ a0 k, LeO (spec_l5RowOk.f k a0) (spec_l5RowOk.f (k + 1) a0) := by
  intro a0 k
  have ih0 := spec_l5RowOk.mono_l k
  unfold spec_l5RowOk.f
  repeat' first
      | (with_reducible exact ih0 _ _)
      | (with_reducible exact LeO.refl _)
      | (with_reducible exact LeO.none _)
      | (with_reducible refine LeO.ite ?_ ?_)
      | (with_reducible refine LeO.bind ?_ (fun _ => ?_))
      | exact ih0 _ _
      | exact LeO.none _
      | refine LeO.ite ?_ ?_
      | refine LeO.bind ?_ (fun _ => ?_)
set_option maxHeartbeats 8000000 in
set_option maxRecDepth 100000 in
theorem spec_l5RowOk.calls (k : Nat) (A0 : Option Addr) (c0 : Nat) (l0 : List Int) (r : Bool) (w : World) (hr0 : Kd.C (Kd.int .i64) w A0 l0.length l0) (hc0 : l0.length ≤ c0) (h : spec_l5RowOk.f k l0 = some r) :
    Calls Try.prog 87 #[.slice A0 l0.length c0] w fun e w' => e = .returned (.bool r) ∧ Drawn0 w w' := by
  have HR0 := zK hr0
  have HC0 := zK hc0
  clear hr0 hc0
  have H : (spec_l5RowOk.l0 k l0 0) = some r := h
  clear h
  have H' := zK H
  clear H
  go_enter Try.func87, Try.ntmps87
  go_wp2
  go_loopg [3] k (fun kq v3 w' => ∃ (x3_1 : Int), v3 = .int .i64 x3_1 ∧ Aside0 (spec_l5RowOk.l0 kq l0 x3_1 = some r) ∧ Aside0 (kq ≤ k) ∧ Drawn0 w w')
  case atStart => exact ⟨(0), zR, H', ⟨Nat.le_refl _⟩, zD⟩
  clear H'
  obtain ⟨x3_1, rfl, HA, HK1, ⟨m1, rfl⟩⟩ := hrel
  rcases gk with _ | k1
  · exact absurd HA.out (by simp [spec_l5RowOk.l0])
  have H := HA.out
  clear HA
  simp only [spec_l5RowOk.l0] at H
  by_cases c2 : x3_1 < (l0.length : Int)
  rotate_left
  · rw [if_neg c2] at H
    have c2b0 : decide (x3_1 < (l0.length : Int)) = false := decide_eq_false c2
    clear c2
    by_cases c6 : (l0.length : Int) > 0
    · rw [if_pos c6] at H
      have c6b0 : decide (0 < (l0.length : Int)) = true := decide_eq_true c6
      have c6b1 : decide (0 < l0.length) = true := decide_eq_true (by omega)
      clear c6
      obtain rfl := Option.some.inj H
      go_wp2
      go_ret
      exact ⟨zR, zD⟩
    rw [if_neg c6] at H
    have c6b0 : decide (0 < (l0.length : Int)) = false := decide_eq_false c6
    have c6b1 : decide (0 < l0.length) = false := decide_eq_false (by omega)
    clear c6
    obtain rfl := Option.some.inj H
    go_wp2
    go_ret
    exact ⟨zR, zD⟩
  rw [if_pos c2] at H
  have c2b0 : decide (x3_1 < (l0.length : Int)) = true := decide_eq_true c2
  clear c2
  by_cases c3 : 0 ≤ x3_1
  rotate_left
  · rw [if_neg c3] at H
    exact absurd H (by simp)
  rw [if_pos c3] at H
  have c3b0 : decide (0 ≤ x3_1) = true := decide_eq_true c3
  clear c3
  by_cases c4 : (rd l0 x3_1) < 0
  · rw [if_pos c4] at H
    have c4b0 : decide ((rd l0 x3_1) < 0) = true := decide_eq_true c4
    clear c4
    obtain rfl := Option.some.inj H
    have p125 : 0 ≤ (x3_1 : Int) := of_decide_eq_true zA
    have q125 : x3_1 < (l0.length : Int) := of_decide_eq_true zA
    obtain ⟨ad125, e125, hx125_0⟩ := Kd.at_int HR0.out x3_1 p125 q125
    cases e125
    replace p125 := eq_true p125
    replace q125 := eq_true q125
    go_wp2
    go_ret
    exact ⟨zR, zD⟩
  rw [if_neg c4] at H
  have c4b0 : decide ((rd l0 x3_1) < 0) = false := decide_eq_false c4
  clear c4
  by_cases c5 : (rd l0 x3_1) ≥ 2147483647
  · rw [if_pos c5] at H
    have c5b0 : decide (2147483647 ≤ (rd l0 x3_1)) = true := decide_eq_true c5
    clear c5
    obtain rfl := Option.some.inj H
    have p125 : 0 ≤ (x3_1 : Int) := of_decide_eq_true zA
    have q125 : x3_1 < (l0.length : Int) := of_decide_eq_true zA
    obtain ⟨ad125, e125, hx125_0⟩ := Kd.at_int HR0.out x3_1 p125 q125
    cases e125
    replace p125 := eq_true p125
    replace q125 := eq_true q125
    have p126 : 0 ≤ (x3_1 : Int) := of_decide_eq_true zA
    have q126 : x3_1 < (l0.length : Int) := of_decide_eq_true zA
    obtain ⟨ad126, e126, hx126_0⟩ := Kd.at_int HR0.out x3_1 p126 q126
    obtain rfl : ad125 = ad126 := (by injection e126)
    replace p126 := eq_true p126
    replace q126 := eq_true q126
    go_wp2
    go_ret
    exact ⟨zR, zD⟩
  rw [if_neg c5] at H
  have c5b0 : decide (2147483647 ≤ (rd l0 x3_1)) = false := decide_eq_false c5
  clear c5
  have H' := zK H
  clear H
  have p125 : 0 ≤ (x3_1 : Int) := of_decide_eq_true zA
  have q125 : x3_1 < (l0.length : Int) := of_decide_eq_true zA
  obtain ⟨ad125, e125, hx125_0⟩ := Kd.at_int HR0.out x3_1 p125 q125
  cases e125
  replace p125 := eq_true p125
  replace q125 := eq_true q125
  have p126 : 0 ≤ (x3_1 : Int) := of_decide_eq_true zA
  have q126 : x3_1 < (l0.length : Int) := of_decide_eq_true zA
  obtain ⟨ad126, e126, hx126_0⟩ := Kd.at_int HR0.out x3_1 p126 q126
  obtain rfl : ad125 = ad126 := (by injection e126)
  replace p126 := eq_true p126
  replace q126 := eq_true q126
  go_wp2
  go_roundg k1
  case measure => have := HK1.out; omega
  case rel => exact ⟨(wrap64 (x3_1 + 1)), zR, H', ⟨by have := HK1.out; omega⟩, zD⟩

/-! ### spec_l11Product: function 89 -/
mutual
def spec_l11Product.l0 : Nat → List Int → Int → Int → Option (Int)
  | 0, _, _, _ => none
  | k + 1, x0, x3, x4 => if x4 < (x0.length : Int) then (if 0 ≤ x4 then (if (rd x0 x4) < 1 then (spec_l11Product.j1 k x0 x3 x4 true) else (if (rd x0 x4) > 65536 then (spec_l11Product.j1 k x0 x3 x4 true) else (spec_l11Product.j1 k x0 x3 x4 (decide ((wrap64 (x3 * (rd x0 x4))) > 65536))))) else (none)) else (some x3)
def spec_l11Product.j1 : Nat → List Int → Int → Int → Bool → Option (Int)
  | 0, _, _, _, _ => none
  | k + 1, x0, x3, x4, x31 => if x31 = true then (some 0) else (if 0 ≤ x4 then (if x4 < (x0.length : Int) then (spec_l11Product.l0 k x0 (wrap64 (x3 * (rd x0 x4))) (wrap64 (x4 + 1))) else (none)) else (none))
end
def spec_l11Product.f (k : Nat) (l0 : List Int) : Option (Int) := spec_l11Product.l0 k l0 1 0
theorem spec_l11Product.mono_l : ∀ k, (∀ y0 y1 y2, LeO (spec_l11Product.l0 k y0 y1 y2) (spec_l11Product.l0 (k + 1) y0 y1 y2)) ∧ (∀ y0 y1 y2 y3, LeO (spec_l11Product.j1 k y0 y1 y2 y3) (spec_l11Product.j1 (k + 1) y0 y1 y2 y3))
  | 0 => ⟨fun _ _ _ r h => by simp [spec_l11Product.l0] at h, fun _ _ _ _ r h => by simp [spec_l11Product.j1] at h⟩
  | k + 1 => by
    obtain ⟨ih0, ih1⟩ := spec_l11Product.mono_l k
    refine ⟨?_, ?_⟩
    all_goals (intros; first | unfold spec_l11Product.l0 | unfold spec_l11Product.j1)
    all_goals repeat' first
      | (with_reducible exact ih0 _ _ _)
      | (with_reducible exact ih1 _ _ _ _)
      | (with_reducible exact LeO.refl _)
      | (with_reducible exact LeO.none _)
      | (with_reducible refine LeO.ite ?_ ?_)
      | (with_reducible refine LeO.bind ?_ (fun _ => ?_))
      | exact ih0 _ _ _
      | exact ih1 _ _ _ _
      | exact LeO.none _
      | refine LeO.ite ?_ ?_
      | refine LeO.bind ?_ (fun _ => ?_)
theorem spec_l11Product.mono : ∀ a0 k, LeO (spec_l11Product.f k a0) (spec_l11Product.f (k + 1) a0) := by
  intro a0 k
  obtain ⟨ih0, ih1⟩ := spec_l11Product.mono_l k
  unfold spec_l11Product.f
  repeat' first
      | (with_reducible exact ih0 _ _ _)
      | (with_reducible exact ih1 _ _ _ _)
      | (with_reducible exact LeO.refl _)
      | (with_reducible exact LeO.none _)
      | (with_reducible refine LeO.ite ?_ ?_)
      | (with_reducible refine LeO.bind ?_ (fun _ => ?_))
      | exact ih0 _ _ _
      | exact ih1 _ _ _ _
      | exact LeO.none _
      | refine LeO.ite ?_ ?_
      | refine LeO.bind ?_ (fun _ => ?_)
set_option maxHeartbeats 8000000 in
set_option maxRecDepth 100000 in
theorem spec_l11Product.calls (k : Nat) (A0 : Option Addr) (c0 : Nat) (l0 : List Int) (r : Int) (w : World) (hr0 : Kd.C (Kd.int .i64) w A0 l0.length l0) (hc0 : l0.length ≤ c0) (h : spec_l11Product.f k l0 = some r) :
    Calls Try.prog 89 #[.slice A0 l0.length c0] w fun e w' => e = .returned (.int .i64 r) ∧ Drawn0 w w' := by
  have HR0 := zK hr0
  have HC0 := zK hc0
  clear hr0 hc0
  have H : (spec_l11Product.l0 k l0 1 0) = some r := h
  clear h
  have H' := zK H
  clear H
  go_enter Try.func89, Try.ntmps89
  go_wp2
  go_loopg [3, 4] k (fun kq v3 v4 w' => ∃ (x3_1 : Int) (x4_1 : Int), v3 = .int .i64 x3_1 ∧ v4 = .int .i64 x4_1 ∧ Aside0 (spec_l11Product.l0 kq l0 x3_1 x4_1 = some r) ∧ Aside0 (kq ≤ k) ∧ Drawn0 w w')
  case atStart => exact ⟨(1), (0), zR, zR, H', ⟨Nat.le_refl _⟩, zD⟩
  clear H'
  obtain ⟨x3_1, x4_1, rfl, rfl, HA, HK1, ⟨m1, rfl⟩⟩ := hrel
  rcases gk with _ | k1
  · exact absurd HA.out (by simp [spec_l11Product.l0])
  have H := HA.out
  clear HA
  simp only [spec_l11Product.l0] at H
  by_cases c2 : x4_1 < (l0.length : Int)
  rotate_left
  · rw [if_neg c2] at H
    have c2b0 : decide (x4_1 < (l0.length : Int)) = false := decide_eq_false c2
    clear c2
    obtain rfl := Option.some.inj H
    go_wp2
    go_ret
    exact ⟨zR, zD⟩
  rw [if_pos c2] at H
  have c2b0 : decide (x4_1 < (l0.length : Int)) = true := decide_eq_true c2
  clear c2
  have HC3 := zK H
  clear H
  go_upto_region 5 with (fail)
  go_cut [31] (fun v31 wc => ∃ (kq : Nat) (x31_2 : Bool), v31 = .bool x31_2 ∧ Aside0 (spec_l11Product.j1 kq l0 x3_1 x4_1 x31_2 = some r) ∧ Aside0 (kq ≤ k1) ∧ Drawn0 w wc)
  case first =>
   have H := HC3.out
   clear HC3
   by_cases c4 : 0 ≤ x4_1
   rotate_left
   · rw [if_neg c4] at H
     exact absurd H (by simp)
   rw [if_pos c4] at H
   have c4b0 : decide (0 ≤ x4_1) = true := decide_eq_true c4
   clear c4
   (first | rw [c4b0] | (simp only [i64_w, i32_w]; rw [c4b0]) | skip)
   by_cases c5 : (rd l0 x4_1) < 1
   · rw [if_pos c5] at H
     have c5b0 : decide ((rd l0 x4_1) < 1) = true := decide_eq_true c5
     clear c5
     have H' := zK H
     clear H
     have p127 : 0 ≤ (x4_1 : Int) := of_decide_eq_true zA
     have q127 : x4_1 < (l0.length : Int) := of_decide_eq_true zA
     obtain ⟨ad127, e127, hx127_0⟩ := Kd.at_int HR0.out x4_1 p127 q127
     cases e127
     replace p127 := eq_true p127
     replace q127 := eq_true q127
     go_wp2
     go_meet
     case rel => exact ⟨_, (true), zR, H', ⟨by have := HK1.out; first | omega | exact Nat.le_refl _⟩, zD⟩
   rw [if_neg c5] at H
   have c5b0 : decide ((rd l0 x4_1) < 1) = false := decide_eq_false c5
   clear c5
   by_cases c6 : (rd l0 x4_1) > 65536
   · rw [if_pos c6] at H
     have c6b0 : decide (65536 < (rd l0 x4_1)) = true := decide_eq_true c6
     clear c6
     have H' := zK H
     clear H
     have p127 : 0 ≤ (x4_1 : Int) := of_decide_eq_true zA
     have q127 : x4_1 < (l0.length : Int) := of_decide_eq_true zA
     obtain ⟨ad127, e127, hx127_0⟩ := Kd.at_int HR0.out x4_1 p127 q127
     cases e127
     replace p127 := eq_true p127
     replace q127 := eq_true q127
     have p128 : 0 ≤ (x4_1 : Int) := of_decide_eq_true zA
     have q128 : x4_1 < (l0.length : Int) := of_decide_eq_true zA
     obtain ⟨ad128, e128, hx128_0⟩ := Kd.at_int HR0.out x4_1 p128 q128
     obtain rfl : ad127 = ad128 := (by injection e128)
     replace p128 := eq_true p128
     replace q128 := eq_true q128
     go_wp2
     go_meet
     case rel => exact ⟨_, (true), zR, H', ⟨by have := HK1.out; first | omega | exact Nat.le_refl _⟩, zD⟩
   rw [if_neg c6] at H
   have c6b0 : decide (65536 < (rd l0 x4_1)) = false := decide_eq_false c6
   clear c6
   have H' := zK H
   clear H
   have p127 : 0 ≤ (x4_1 : Int) := of_decide_eq_true zA
   have q127 : x4_1 < (l0.length : Int) := of_decide_eq_true zA
   obtain ⟨ad127, e127, hx127_0⟩ := Kd.at_int HR0.out x4_1 p127 q127
   cases e127
   replace p127 := eq_true p127
   replace q127 := eq_true q127
   have p128 : 0 ≤ (x4_1 : Int) := of_decide_eq_true zA
   have q128 : x4_1 < (l0.length : Int) := of_decide_eq_true zA
   obtain ⟨ad128, e128, hx128_0⟩ := Kd.at_int HR0.out x4_1 p128 q128
   obtain rfl : ad127 = ad128 := (by injection e128)
   replace p128 := eq_true p128
   replace q128 := eq_true q128
   have p129 : 0 ≤ (x4_1 : Int) := of_decide_eq_true zA
   have q129 : x4_1 < (l0.length : Int) := of_decide_eq_true zA
   obtain ⟨ad129, e129, hx129_0⟩ := Kd.at_int HR0.out x4_1 p129 q129
   obtain rfl : ad127 = ad129 := (by injection e129)
   replace p129 := eq_true p129
   replace q129 := eq_true q129
   go_wp2
   go_meet
   case rel => exact ⟨_, (decide ((wrap64 (x3_1 * (rd l0 x4_1))) > 65536)), zR, H', ⟨by have := HK1.out; first | omega | exact Nat.le_refl _⟩, zD⟩
  case rest =>
   clear HC3
   try clear p1
   try clear q1
   try clear hx1
   try clear c2
   try clear c2b0
   try clear p2
   try clear c4
   try clear c4b0
   try clear c5
   try clear c5b0
   try clear c6
   try clear c6b0
   try clear p6
   try clear hx127_0
   try clear hx128_0
   try clear hx129_0
   try clear p127
   try clear p128
   try clear p129
   try clear q127
   try clear q128
   try clear q129
   obtain ⟨kq, x31_2, rfl, HA, HJ2, ⟨mc2, rfl⟩⟩ := hcut
   cases kq with
   | zero => exact absurd HA.out (by simp [spec_l11Product.j1])
   | succ kj2 =>
    have H := HA.out
    clear HA
    simp only [spec_l11Product.j1] at H
    by_cases c7 : x31_2 = true
    · subst c7
      have H1 : (some 0) = some r := by rw [if_pos rfl] at H; exact H
      clear H
      have H := H1
      clear H1
      obtain rfl := Option.some.inj H
      go_wp2
      go_ret
      exact ⟨zR, zD⟩
    replace c7 := Bool.eq_false_iff.mpr c7
    subst c7
    have H1 : (if 0 ≤ x4_1 then (if x4_1 < (l0.length : Int) then (spec_l11Product.l0 kj2 l0 (wrap64 (x3_1 * (rd l0 x4_1))) (wrap64 (x4_1 + 1))) else (none)) else (none)) = some r := by rw [if_neg (show ¬ (false = true) by decide)] at H; exact H
    clear H
    have H := H1
    clear H1
    by_cases c8 : 0 ≤ x4_1
    rotate_left
    · rw [if_neg c8] at H
      exact absurd H (by simp)
    rw [if_pos c8] at H
    have c8b0 : decide (0 ≤ x4_1) = true := decide_eq_true c8
    clear c8
    by_cases c9 : x4_1 < (l0.length : Int)
    rotate_left
    · rw [if_neg c9] at H
      exact absurd H (by simp)
    rw [if_pos c9] at H
    have c9b0 : decide (x4_1 < (l0.length : Int)) = true := decide_eq_true c9
    clear c9
    have H' := zK H
    clear H
    have p130 : 0 ≤ (x4_1 : Int) := of_decide_eq_true zA
    have q130 : x4_1 < (l0.length : Int) := of_decide_eq_true zA
    obtain ⟨ad130, e130, hx130_0⟩ := Kd.at_int HR0.out x4_1 p130 q130
    cases e130
    replace p130 := eq_true p130
    replace q130 := eq_true q130
    go_wp2
    go_roundg kj2
    case measure => have := HK1.out; have := HJ2.out; omega
    case rel => exact ⟨(wrap64 (x3_1 * (rd l0 x4_1))), (wrap64 (x4_1 + 1)), zR, zR, H', ⟨by have := HK1.out; have := HJ2.out; omega⟩, zD⟩

end Go.Proofs.Ytkfagiojcjnfkaa.PFnExactNestOk
