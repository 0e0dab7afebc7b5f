-- Printed out of the translation by this session's own turned copy of a printer; Lean checks it.
import Derived.Test.YtkfagiojcjnfkaaPFnExactNestOkx0
namespace Go.Proofs.Ytkfagiojcjnfkaa.PFnExactNestOk
open Go.RowKit Go.Proofs.YtkfagiojcjnfkaaW.PrintWords Go.Proofs.YtkfagiojcjnfkaaW.PrintLast Go.Proofs.YtkfagiojcjnfkaaW.PrintMore
attribute [local go_sem] max2_int min2_int max_two min_two max_three min_three max_four min_four   -- for this text's walks alone
set_option linter.unusedVariables false
set_option linter.unusedSimpArgs false

/-! ### laws_szIntS: function 46 -/
def laws_szIntS.f (l0 : List Int) (a1 : Int) : Option (Int) := if (wrap64 (a1 - (l0.length : Int))) < 0 then (some (-1)) else (some (wrap64 (a1 - (l0.length : Int))))
set_option maxHeartbeats 8000000 in
set_option maxRecDepth 100000 in
theorem laws_szIntS.calls (A0 : Option Addr) (c0 : Nat) (l0 : List Int) (a1 : Int) (r : Int) (w : World) (hr0 : Kd.C (Kd.int .i64) w A0 l0.length l0) (hc0 : l0.length ≤ c0) (h : laws_szIntS.f l0 a1 = some r) :
    Calls Try.prog 46 #[.slice A0 l0.length c0, .int .i64 a1] w fun e w' => e = .returned (.int .i64 r) ∧ Drawn0 w w' := by
  have HR0 := zK hr0
  have HC0 := zK hc0
  clear hr0 hc0
  have H : (if (wrap64 (a1 - (l0.length : Int))) < 0 then (some (-1)) else (some (wrap64 (a1 - (l0.length : Int))))) = some r := h
  clear h
  by_cases c3 : (wrap64 (a1 - (l0.length : Int))) < 0
  · rw [if_pos c3] at H
    have c3b0 : decide ((wrap64 (a1 - (l0.length : Int))) < 0) = true := decide_eq_true c3
    clear c3
    obtain rfl := Option.some.inj H
    go_enter Try.func46, Try.ntmps46
    go_wp2
    go_ret
    exact ⟨zR, zD⟩
  rw [if_neg c3] at H
  have c3b0 : decide ((wrap64 (a1 - (l0.length : Int))) < 0) = false := decide_eq_false c3
  clear c3
  obtain rfl := Option.some.inj H
  go_enter Try.func46, Try.ntmps46
  go_wp2
  go_ret
  exact ⟨zR, zD⟩

/-! ### laws_szFix: function 144 -/
def laws_szFix.f (a0_0 : Int) (l0_1 : List Int) (a1 : Int) : Option (Int) := (laws_szIntS.f l0_1 a1).bind fun t102 => (if t102 < 0 then (some (-1)) else (some t102))
set_option maxHeartbeats 8000000 in
set_option maxRecDepth 100000 in
theorem laws_szFix.calls (a0_0 : Int) (A0_1 : Option Addr) (c0_1 : Nat) (l0_1 : List Int) (a1 : Int) (r : Int) (w : World) (hr0_1 : Kd.C (Kd.int .i64) w A0_1 l0_1.length l0_1) (hc0_1 : l0_1.length ≤ c0_1) (h : laws_szFix.f a0_0 l0_1 a1 = some r) :
    Calls Try.prog 144 #[.agg #[.int .i64 a0_0, .slice A0_1 l0_1.length c0_1], .int .i64 a1] w fun e w' => e = .returned (.int .i64 r) ∧ Below w.heap.size w w' := by
  have hu166 := Try.underlying166
  have HR0_1 := zK hr0_1
  have HC0_1 := zK hc0_1
  clear hr0_1 hc0_1
  have HB := zK (Below.refl w.heap.size w)
  have H : ((laws_szIntS.f l0_1 a1).bind fun t102 => (if t102 < 0 then (some (-1)) else (some t102))) = some r := h
  clear h
  replace H := Option.bind_eq_some_iff.mp H
  obtain ⟨t102, A30, H⟩ := H
  replace H : (if t102 < 0 then (some (-1)) else (some t102)) = some r := H
  have A3 := zK A30
  clear A30
  by_cases c4 : t102 < 0
  · rw [if_pos c4] at H
    have c4b0 : decide (t102 < 0) = true := decide_eq_true c4
    clear c4
    obtain rfl := Option.some.inj H
    go_enter Try.func144, Try.ntmps144
    go_wp2_with (first | ((with_reducible refine gate_dst (N := 2) rfl ?_); refine zJ 2 #[.int .i64 a0_0, .slice A0_1 l0_1.length c0_1] 166 ?_; intro gb101 hg w5 hbox hb; have n0_ := zK (zp zB hb); have n1_ := zK (hbox); have n2_ := zK (zI hg zB); have n3_ := zK (zI hg zB); clear HB; have HB := n0_; have BK101 := n1_; have GW101 := n2_; have GE101 := n3_; clear n0_ n1_ n2_ n3_; clear hb hbox hg; obtain ⟨hcz6_0, hcz6_1, hfz6_0, hfz6_1⟩ := zc2 BK101) | ((with_reducible refine gate_callee (f := 46) rfl ?_); refine zF 8 Try.func46 #[.slice A0_1 l0_1.length c0_1, .int .i64 a1] rfl zL ?_; (with_reducible refine (laws_szIntS.calls _ _ l0_1 a1 t102 _ ?side1 ?side2 A3.out).mono ?_); (case side1 => exact zC (Kd.C_below HR0_1.out HB.out)); (case side2 => exact HC0_1.out); rintro e w' ⟨rfl, ⟨nd, rfl⟩⟩; refine ⟨_, rfl, ?_⟩))
    go_ret
    exact ⟨zE, zB⟩
  rw [if_neg c4] at H
  have c4b0 : decide (t102 < 0) = false := decide_eq_false c4
  clear c4
  obtain rfl := Option.some.inj H
  go_enter Try.func144, Try.ntmps144
  go_wp2_with (first | ((with_reducible refine gate_dst (N := 2) rfl ?_); refine zJ 2 #[.int .i64 a0_0, .slice A0_1 l0_1.length c0_1] 166 ?_; intro gb101 hg w7 hbox hb; have n0_ := zK (zp zB hb); have n1_ := zK (hbox); have n2_ := zK (zI hg zB); have n3_ := zK (zI hg zB); clear HB; have HB := n0_; have BK101 := n1_; have GW101 := n2_; have GE101 := n3_; clear n0_ n1_ n2_ n3_; clear hb hbox hg; obtain ⟨hcz8_0, hcz8_1, hfz8_0, hfz8_1⟩ := zc2 BK101) | ((with_reducible refine gate_callee (f := 46) rfl ?_); refine zF 8 Try.func46 #[.slice A0_1 l0_1.length c0_1, .int .i64 a1] rfl zL ?_; (with_reducible refine (laws_szIntS.calls _ _ l0_1 a1 t102 _ ?side1 ?side2 A3.out).mono ?_); (case side1 => exact zC (Kd.C_below HR0_1.out HB.out)); (case side2 => exact HC0_1.out); rintro e w' ⟨rfl, ⟨nd, rfl⟩⟩; refine ⟨_, rfl, ?_⟩))
  go_ret
  exact ⟨zE, zB⟩

/-! ### laws_szFixS: function 83 -/
def laws_szFixS.l0 : Nat → List (S166) → Int → Int → Option (Int)
  | 0, _, _, _ => none
  | k + 1, x0, x1, x5 => if x5 < (x0.length : Int) then (if 0 ≤ x5 then ((laws_szFix.f ((rd_T166 x0 x5).f0) ((rd_T166 x0 x5).f1) x1).bind fun t104 => (if t104 < 0 then (some (-1)) else (laws_szFixS.l0 k x0 t104 (wrap64 (x5 + 1))))) else (none)) else (some x1)
def laws_szFixS.f (k : Nat) (l0 : List (S166)) (a1 : Int) : Option (Int) := if (wrap64 (a1 - (l0.length : Int))) < 0 then (some (-1)) else (laws_szFixS.l0 k l0 (wrap64 (a1 - (l0.length : Int))) 0)
theorem laws_szFixS.mono_l : ∀ k, (∀ y0 y1 y2, LeO (laws_szFixS.l0 k y0 y1 y2) (laws_szFixS.l0 (k + 1) y0 y1 y2))
  | 0 => fun _ _ _ r h => by simp [laws_szFixS.l0] at h
  | k + 1 => by
    have ih0 := laws_szFixS.mono_l k
    · intro y0 y1 y2
      unfold laws_szFixS.l0
      repeat' first
      | (with_reducible exact ih0 _ _ _)
      | (with_reducible exact LeO.refl _)
      | (with_reducible exact LeO.none _)
      | (with_reducible refine LeO.ite ?_ ?_)
      | (with_reducible refine LeO.bind ?_ (fun _ => ?_))
      | exact ih0 _ _ _
      | exact LeO.none _
      | refine LeO.ite ?_ ?_
      | refine LeO.bind ?_ (fun _ => ?_)
theorem laws_szFixS.mono : ∀ a0 a1 k, LeO (laws_szFixS.f k a0 a1) (laws_szFixS.f (k + 1) a0 a1) := by
  intro a0 a1 k
  have ih0 := laws_szFixS.mono_l k
  unfold laws_szFixS.f
  repeat' first
      | (with_reducible exact ih0 _ _ _)
      | (with_reducible exact LeO.refl _)
      | (with_reducible exact LeO.none _)
      | (with_reducible refine LeO.ite ?_ ?_)
      | (with_reducible refine LeO.bind ?_ (fun _ => ?_))
      | exact ih0 _ _ _
      | exact LeO.none _
      | refine LeO.ite ?_ ?_
      | refine LeO.bind ?_ (fun _ => ?_)
set_option maxHeartbeats 8000000 in
set_option maxRecDepth 100000 in
theorem laws_szFixS.calls (k : Nat) (A0 : Option Addr) (c0 : Nat) (l0 : List (S166)) (a1 : Int) (r : Int) (w : World) (hr0 : Kd.C k166 w A0 l0.length l0) (hc0 : l0.length ≤ c0) (h : laws_szFixS.f k l0 a1 = some r) :
    Calls Try.prog 83 #[.slice A0 l0.length c0, .int .i64 a1] w fun e w' => e = .returned (.int .i64 r) ∧ Below w.heap.size w w' := by
  have hu166 := Try.underlying166
  have HR0 := zK hr0
  have HC0 := zK hc0
  clear hr0 hc0
  have HB := zK (Below.refl w.heap.size w)
  have H : (if (wrap64 (a1 - (l0.length : Int))) < 0 then (some (-1)) else (laws_szFixS.l0 k l0 (wrap64 (a1 - (l0.length : Int))) 0)) = some r := h
  clear h
  by_cases c3 : (wrap64 (a1 - (l0.length : Int))) < 0
  · rw [if_pos c3] at H
    have c3b0 : decide ((wrap64 (a1 - (l0.length : Int))) < 0) = true := decide_eq_true c3
    clear c3
    obtain rfl := Option.some.inj H
    go_enter Try.func83, Try.ntmps83
    go_wp2
    go_ret
    exact ⟨zE, zB⟩
  rw [if_neg c3] at H
  have c3b0 : decide ((wrap64 (a1 - (l0.length : Int))) < 0) = false := decide_eq_false c3
  clear c3
  have H' := zK H
  clear H
  go_enter Try.func83, Try.ntmps83
  go_wp2
  go_loopg [1, 5] k (fun kq v1 v5 w' => ∃ (x1_1 : Int) (x5_1 : Int), v1 = .int .i64 x1_1 ∧ v5 = .int .i64 x5_1 ∧ Aside0 (laws_szFixS.l0 kq l0 x1_1 x5_1 = some r) ∧ Aside0 (kq ≤ k) ∧ Aside0 (Below w.heap.size w w'))
  case atStart => exact ⟨(wrap64 (a1 - (l0.length : Int))), (0), zR, zR, H', ⟨Nat.le_refl _⟩, ⟨zB⟩⟩
  clear H'
  try clear p2
  try clear c3
  try clear c3b0
  obtain ⟨x1_1, x5_1, rfl, rfl, HA, HK1, HB⟩ := hrel
  rcases gk with _ | k1
  · exact absurd HA.out (by simp [laws_szFixS.l0])
  have H := HA.out
  clear HA
  simp only [laws_szFixS.l0] at H
  by_cases c4 : x5_1 < (l0.length : Int)
  rotate_left
  · rw [if_neg c4] at H
    have c4b0 : decide (x5_1 < (l0.length : Int)) = false := decide_eq_false c4
    clear c4
    obtain rfl := Option.some.inj H
    go_wp2
    go_ret
    exact ⟨zE, zB⟩
  rw [if_pos c4] at H
  have c4b0 : decide (x5_1 < (l0.length : Int)) = true := decide_eq_true c4
  clear c4
  by_cases c5 : 0 ≤ x5_1
  rotate_left
  · rw [if_neg c5] at H
    exact absurd H (by simp)
  rw [if_pos c5] at H
  have c5b0 : decide (0 ≤ x5_1) = true := decide_eq_true c5
  clear c5
  replace H := Option.bind_eq_some_iff.mp H
  obtain ⟨t104, A60, H⟩ := H
  replace H : (if t104 < 0 then (some (-1)) else (laws_szFixS.l0 k1 l0 t104 (wrap64 (x5_1 + 1)))) = some r := H
  have A6 := zK A60
  clear A60
  by_cases c7 : t104 < 0
  · rw [if_pos c7] at H
    have c7b0 : decide (t104 < 0) = true := decide_eq_true c7
    clear c7
    obtain rfl := Option.some.inj H
    have p103 : 0 ≤ (x5_1 : Int) := of_decide_eq_true zA
    have q103 : x5_1 < (l0.length : Int) := of_decide_eq_true zA
    obtain ⟨ad103, A103_1, c103_1, e103, hx103_0, hx103_1, hl103_1, hi103_1⟩ := at_T166 HR0.out x5_1 p103 q103
    cases e103
    (try replace hx103_0 := zX HB hx103_0)
    (try replace hx103_1 := zX HB hx103_1)
    have HR103_1 := zK hi103_1
    have HC103_1 := zK hl103_1
    clear hi103_1 hl103_1
    replace p103 := eq_true p103
    replace q103 := eq_true q103
    go_wp2_with (first | ((with_reducible refine gate_callee (f := 144) rfl ?_); refine zF 23 Try.func144 #[.agg #[.int .i64 ((rd_T166 l0 x5_1).f0), .slice A103_1 ((rd_T166 l0 x5_1).f1).length c103_1], .int .i64 x1_1] rfl zL ?_; (with_reducible refine (laws_szFix.calls ((rd_T166 l0 x5_1).f0) _ _ ((rd_T166 l0 x5_1).f1) x1_1 t104 _ ?side1 ?side2 A6.out).mono ?_); (case side1 => exact zC (Kd.C_below HR103_1.out HB.out)); (case side2 => exact HC103_1.out); rintro e w8 ⟨rfl, hb⟩; refine ⟨_, rfl, ?_⟩; have n0_ := zK (zp zB hb); clear HB; have HB := n0_; clear n0_; (try clear hb); (try clear hb2); (try clear hk); (try clear hi)))
    go_ret
    exact ⟨zE, zB⟩
  rw [if_neg c7] at H
  have c7b0 : decide (t104 < 0) = false := decide_eq_false c7
  clear c7
  have H' := zK H
  clear H
  have p103 : 0 ≤ (x5_1 : Int) := of_decide_eq_true zA
  have q103 : x5_1 < (l0.length : Int) := of_decide_eq_true zA
  obtain ⟨ad103, A103_1, c103_1, e103, hx103_0, hx103_1, hl103_1, hi103_1⟩ := at_T166 HR0.out x5_1 p103 q103
  cases e103
  (try replace hx103_0 := zX HB hx103_0)
  (try replace hx103_1 := zX HB hx103_1)
  have HR103_1 := zK hi103_1
  have HC103_1 := zK hl103_1
  clear hi103_1 hl103_1
  replace p103 := eq_true p103
  replace q103 := eq_true q103
  go_wp2_with (first | ((with_reducible refine gate_callee (f := 144) rfl ?_); refine zF 23 Try.func144 #[.agg #[.int .i64 ((rd_T166 l0 x5_1).f0), .slice A103_1 ((rd_T166 l0 x5_1).f1).length c103_1], .int .i64 x1_1] rfl zL ?_; (with_reducible refine (laws_szFix.calls ((rd_T166 l0 x5_1).f0) _ _ ((rd_T166 l0 x5_1).f1) x1_1 t104 _ ?side1 ?side2 A6.out).mono ?_); (case side1 => exact zC (Kd.C_below HR103_1.out HB.out)); (case side2 => exact HC103_1.out); rintro e w9 ⟨rfl, hb⟩; refine ⟨_, rfl, ?_⟩; have n0_ := zK (zp zB hb); clear HB; have HB := n0_; clear n0_; (try clear hb); (try clear hb2); (try clear hk); (try clear hi)))
  go_roundg k1
  case measure => have := HK1.out; omega
  case rel => exact ⟨(t104), (wrap64 (x5_1 + 1)), zR, zR, H', ⟨by have := HK1.out; omega⟩, ⟨zB⟩⟩

/-! ### laws_szAccess: function 189 -/
def laws_szAccess.f (a0_0 : Int) (a0_1 : Int) (l0_2 : List Int) (a1 : Int) : Option (Int) := (laws_szIntS.f l0_2 a1).bind fun t106 => (if t106 < 0 then (some (-1)) else (some t106))
set_option maxHeartbeats 8000000 in
set_option maxRecDepth 100000 in
theorem laws_szAccess.calls (a0_0 : Int) (a0_1 : Int) (A0_2 : Option Addr) (c0_2 : Nat) (l0_2 : List Int) (a1 : Int) (r : Int) (w : World) (hr0_2 : Kd.C (Kd.int .i64) w A0_2 l0_2.length l0_2) (hc0_2 : l0_2.length ≤ c0_2) (h : laws_szAccess.f a0_0 a0_1 l0_2 a1 = some r) :
    Calls Try.prog 189 #[.agg #[.int .i64 a0_0, .int .i64 a0_1, .slice A0_2 l0_2.length c0_2], .int .i64 a1] w fun e w' => e = .returned (.int .i64 r) ∧ Below w.heap.size w w' := by
  have hu169 := Try.underlying169
  have HR0_2 := zK hr0_2
  have HC0_2 := zK hc0_2
  clear hr0_2 hc0_2
  have HB := zK (Below.refl w.heap.size w)
  have H : ((laws_szIntS.f l0_2 a1).bind fun t106 => (if t106 < 0 then (some (-1)) else (some t106))) = some r := h
  clear h
  replace H := Option.bind_eq_some_iff.mp H
  obtain ⟨t106, A30, H⟩ := H
  replace H : (if t106 < 0 then (some (-1)) else (some t106)) = some r := H
  have A3 := zK A30
  clear A30
  by_cases c4 : t106 < 0
  · rw [if_pos c4] at H
    have c4b0 : decide (t106 < 0) = true := decide_eq_true c4
    clear c4
    obtain rfl := Option.some.inj H
    go_enter Try.func189, Try.ntmps189
    go_wp2_with (first | ((with_reducible refine gate_dst (N := 2) rfl ?_); refine zJ 2 #[.int .i64 a0_0, .int .i64 a0_1, .slice A0_2 l0_2.length c0_2] 169 ?_; intro gb105 hg w5 hbox hb; have n0_ := zK (zp zB hb); have n1_ := zK (hbox); have n2_ := zK (zI hg zB); have n3_ := zK (zI hg zB); clear HB; have HB := n0_; have BK105 := n1_; have GW105 := n2_; have GE105 := n3_; clear n0_ n1_ n2_ n3_; clear hb hbox hg; obtain ⟨hcz6_0, hcz6_1, hcz6_2, hfz6_0, hfz6_1, hfz6_2⟩ := zc3 BK105) | ((with_reducible refine gate_callee (f := 46) rfl ?_); refine zF 8 Try.func46 #[.slice A0_2 l0_2.length c0_2, .int .i64 a1] rfl zL ?_; (with_reducible refine (laws_szIntS.calls _ _ l0_2 a1 t106 _ ?side1 ?side2 A3.out).mono ?_); (case side1 => exact zC (Kd.C_below HR0_2.out HB.out)); (case side2 => exact HC0_2.out); rintro e w' ⟨rfl, ⟨nd, rfl⟩⟩; refine ⟨_, rfl, ?_⟩))
    go_ret
    exact ⟨zE, zB⟩
  rw [if_neg c4] at H
  have c4b0 : decide (t106 < 0) = false := decide_eq_false c4
  clear c4
  obtain rfl := Option.some.inj H
  go_enter Try.func189, Try.ntmps189
  go_wp2_with (first | ((with_reducible refine gate_dst (N := 2) rfl ?_); refine zJ 2 #[.int .i64 a0_0, .int .i64 a0_1, .slice A0_2 l0_2.length c0_2] 169 ?_; intro gb105 hg w7 hbox hb; have n0_ := zK (zp zB hb); have n1_ := zK (hbox); have n2_ := zK (zI hg zB); have n3_ := zK (zI hg zB); clear HB; have HB := n0_; have BK105 := n1_; have GW105 := n2_; have GE105 := n3_; clear n0_ n1_ n2_ n3_; clear hb hbox hg; obtain ⟨hcz8_0, hcz8_1, hcz8_2, hfz8_0, hfz8_1, hfz8_2⟩ := zc3 BK105) | ((with_reducible refine gate_callee (f := 46) rfl ?_); refine zF 8 Try.func46 #[.slice A0_2 l0_2.length c0_2, .int .i64 a1] rfl zL ?_; (with_reducible refine (laws_szIntS.calls _ _ l0_2 a1 t106 _ ?side1 ?side2 A3.out).mono ?_); (case side1 => exact zC (Kd.C_below HR0_2.out HB.out)); (case side2 => exact HC0_2.out); rintro e w' ⟨rfl, ⟨nd, rfl⟩⟩; refine ⟨_, rfl, ?_⟩))
  go_ret
  exact ⟨zE, zB⟩

/-! ### laws_szAccessS: function 188 -/
def laws_szAccessS.l0 : Nat → List (S169) → Int → Int → Option (Int)
  | 0, _, _, _ => none
  | k + 1, x0, x1, x5 => if x5 < (x0.length : Int) then (if 0 ≤ x5 then ((laws_szAccess.f ((rd_T169 x0 x5).f0) ((rd_T169 x0 x5).f1) ((rd_T169 x0 x5).f2) x1).bind fun t108 => (if t108 < 0 then (some (-1)) else (laws_szAccessS.l0 k x0 t108 (wrap64 (x5 + 1))))) else (none)) else (some x1)
def laws_szAccessS.f (k : Nat) (l0 : List (S169)) (a1 : Int) : Option (Int) := if (wrap64 (a1 - (l0.length : Int))) < 0 then (some (-1)) else (laws_szAccessS.l0 k l0 (wrap64 (a1 - (l0.length : Int))) 0)
theorem laws_szAccessS.mono_l : ∀ k, (∀ y0 y1 y2, LeO (laws_szAccessS.l0 k y0 y1 y2) (laws_szAccessS.l0 (k + 1) y0 y1 y2))
  | 0 => fun _ _ _ r h => by simp [laws_szAccessS.l0] at h
  | k + 1 => by
    have ih0 := laws_szAccessS.mono_l k
    · intro y0 y1 y2
      unfold laws_szAccessS.l0
      repeat' first
      | (with_reducible exact ih0 _ _ _)
      | (with_reducible exact LeO.refl _)
      | (with_reducible exact LeO.none _)
      | (with_reducible refine LeO.ite ?_ ?_)
      | (with_reducible refine LeO.bind ?_ (fun _ => ?_))
      | exact ih0 _ _ _
      | exact LeO.none _
      | refine LeO.ite ?_ ?_
      | refine LeO.bind ?_ (fun _ => ?_)
theorem laws_szAccessS.mono : ∀ a0 a1 k, LeO (laws_szAccessS.f k a0 a1) (laws_szAccessS.f (k + 1) a0 a1) := by
  intro a0 a1 k
  have ih0 := laws_szAccessS.mono_l k
  unfold laws_szAccessS.f
  repeat' first
      | (with_reducible exact ih0 _ _ _)
      | (with_reducible exact LeO.refl _)
      | (with_reducible exact LeO.none _)
      | (with_reducible refine LeO.ite ?_ ?_)
      | (with_reducible refine LeO.bind ?_ (fun _ => ?_))
      | exact ih0 _ _ _
      | exact LeO.none _
      | refine LeO.ite ?_ ?_
      | refine LeO.bind ?_ (fun _ => ?_)
set_option maxHeartbeats 8000000 in
set_option maxRecDepth 100000 in
theorem laws_szAccessS.calls (k : Nat) (A0 : Option Addr) (c0 : Nat) (l0 : List (S169)) (a1 : Int) (r : Int) (w : World) (hr0 : Kd.C k169 w A0 l0.length l0) (hc0 : l0.length ≤ c0) (h : laws_szAccessS.f k l0 a1 = some r) :
    Calls Try.prog 188 #[.slice A0 l0.length c0, .int .i64 a1] w fun e w' => e = .returned (.int .i64 r) ∧ Below w.heap.size w w' := by
  have hu169 := Try.underlying169
  have HR0 := zK hr0
  have HC0 := zK hc0
  clear hr0 hc0
  have HB := zK (Below.refl w.heap.size w)
  have H : (if (wrap64 (a1 - (l0.length : Int))) < 0 then (some (-1)) else (laws_szAccessS.l0 k l0 (wrap64 (a1 - (l0.length : Int))) 0)) = some r := h
  clear h
  by_cases c3 : (wrap64 (a1 - (l0.length : Int))) < 0
  · rw [if_pos c3] at H
    have c3b0 : decide ((wrap64 (a1 - (l0.length : Int))) < 0) = true := decide_eq_true c3
    clear c3
    obtain rfl := Option.some.inj H
    go_enter Try.func188, Try.ntmps188
    go_wp2
    go_ret
    exact ⟨zE, zB⟩
  rw [if_neg c3] at H
  have c3b0 : decide ((wrap64 (a1 - (l0.length : Int))) < 0) = false := decide_eq_false c3
  clear c3
  have H' := zK H
  clear H
  go_enter Try.func188, Try.ntmps188
  go_wp2
  go_loopg [1, 5] k (fun kq v1 v5 w' => ∃ (x1_1 : Int) (x5_1 : Int), v1 = .int .i64 x1_1 ∧ v5 = .int .i64 x5_1 ∧ Aside0 (laws_szAccessS.l0 kq l0 x1_1 x5_1 = some r) ∧ Aside0 (kq ≤ k) ∧ Aside0 (Below w.heap.size w w'))
  case atStart => exact ⟨(wrap64 (a1 - (l0.length : Int))), (0), zR, zR, H', ⟨Nat.le_refl _⟩, ⟨zB⟩⟩
  clear H'
  try clear c1
  try clear p2
  try clear c3
  try clear c3b0
  obtain ⟨x1_1, x5_1, rfl, rfl, HA, HK1, HB⟩ := hrel
  rcases gk with _ | k1
  · exact absurd HA.out (by simp [laws_szAccessS.l0])
  have H := HA.out
  clear HA
  simp only [laws_szAccessS.l0] at H
  by_cases c4 : x5_1 < (l0.length : Int)
  rotate_left
  · rw [if_neg c4] at H
    have c4b0 : decide (x5_1 < (l0.length : Int)) = false := decide_eq_false c4
    clear c4
    obtain rfl := Option.some.inj H
    go_wp2
    go_ret
    exact ⟨zE, zB⟩
  rw [if_pos c4] at H
  have c4b0 : decide (x5_1 < (l0.length : Int)) = true := decide_eq_true c4
  clear c4
  by_cases c5 : 0 ≤ x5_1
  rotate_left
  · rw [if_neg c5] at H
    exact absurd H (by simp)
  rw [if_pos c5] at H
  have c5b0 : decide (0 ≤ x5_1) = true := decide_eq_true c5
  clear c5
  replace H := Option.bind_eq_some_iff.mp H
  obtain ⟨t108, A60, H⟩ := H
  replace H : (if t108 < 0 then (some (-1)) else (laws_szAccessS.l0 k1 l0 t108 (wrap64 (x5_1 + 1)))) = some r := H
  have A6 := zK A60
  clear A60
  by_cases c7 : t108 < 0
  · rw [if_pos c7] at H
    have c7b0 : decide (t108 < 0) = true := decide_eq_true c7
    clear c7
    obtain rfl := Option.some.inj H
    have p107 : 0 ≤ (x5_1 : Int) := of_decide_eq_true zA
    have q107 : x5_1 < (l0.length : Int) := of_decide_eq_true zA
    obtain ⟨ad107, A107_2, c107_2, e107, hx107_0, hx107_1, hx107_2, hl107_2, hi107_2⟩ := at_T169 HR0.out x5_1 p107 q107
    cases e107
    (try replace hx107_0 := zX HB hx107_0)
    (try replace hx107_1 := zX HB hx107_1)
    (try replace hx107_2 := zX HB hx107_2)
    have HR107_2 := zK hi107_2
    have HC107_2 := zK hl107_2
    clear hi107_2 hl107_2
    replace p107 := eq_true p107
    replace q107 := eq_true q107
    go_wp2_with (first | ((with_reducible refine gate_callee (f := 189) rfl ?_); refine zF 23 Try.func189 #[.agg #[.int .i64 ((rd_T169 l0 x5_1).f0), .int .i64 ((rd_T169 l0 x5_1).f1), .slice A107_2 ((rd_T169 l0 x5_1).f2).length c107_2], .int .i64 x1_1] rfl zL ?_; (with_reducible refine (laws_szAccess.calls ((rd_T169 l0 x5_1).f0) ((rd_T169 l0 x5_1).f1) _ _ ((rd_T169 l0 x5_1).f2) x1_1 t108 _ ?side1 ?side2 A6.out).mono ?_); (case side1 => exact zC (Kd.C_below HR107_2.out HB.out)); (case side2 => exact HC107_2.out); rintro e w8 ⟨rfl, hb⟩; refine ⟨_, rfl, ?_⟩; have n0_ := zK (zp zB hb); clear HB; have HB := n0_; clear n0_; (try clear hb); (try clear hb2); (try clear hk); (try clear hi)))
    go_ret
    exact ⟨zE, zB⟩
  rw [if_neg c7] at H
  have c7b0 : decide (t108 < 0) = false := decide_eq_false c7
  clear c7
  have H' := zK H
  clear H
  have p107 : 0 ≤ (x5_1 : Int) := of_decide_eq_true zA
  have q107 : x5_1 < (l0.length : Int) := of_decide_eq_true zA
  obtain ⟨ad107, A107_2, c107_2, e107, hx107_0, hx107_1, hx107_2, hl107_2, hi107_2⟩ := at_T169 HR0.out x5_1 p107 q107
  cases e107
  (try replace hx107_0 := zX HB hx107_0)
  (try replace hx107_1 := zX HB hx107_1)
  (try replace hx107_2 := zX HB hx107_2)
  have HR107_2 := zK hi107_2
  have HC107_2 := zK hl107_2
  clear hi107_2 hl107_2
  replace p107 := eq_true p107
  replace q107 := eq_true q107
  go_wp2_with (first | ((with_reducible refine gate_callee (f := 189) rfl ?_); refine zF 23 Try.func189 #[.agg #[.int .i64 ((rd_T169 l0 x5_1).f0), .int .i64 ((rd_T169 l0 x5_1).f1), .slice A107_2 ((rd_T169 l0 x5_1).f2).length c107_2], .int .i64 x1_1] rfl zL ?_; (with_reducible refine (laws_szAccess.calls ((rd_T169 l0 x5_1).f0) ((rd_T169 l0 x5_1).f1) _ _ ((rd_T169 l0 x5_1).f2) x1_1 t108 _ ?side1 ?side2 A6.out).mono ?_); (case side1 => exact zC (Kd.C_below HR107_2.out HB.out)); (case side2 => exact HC107_2.out); rintro e w9 ⟨rfl, hb⟩; refine ⟨_, rfl, ?_⟩; have n0_ := zK (zp zB hb); clear HB; have HB := n0_; clear n0_; (try clear hb); (try clear hb2); (try clear hk); (try clear hi)))
  go_roundg k1
  case measure => have := HK1.out; omega
  case rel => exact ⟨(t108), (wrap64 (x5_1 + 1)), zR, zR, H', ⟨by have := HK1.out; omega⟩, ⟨zB⟩⟩

/-! ### laws_szCalcS: function 190 -/
def laws_szCalcS.f (l0 : List (S230)) (a1 : Int) : Option (Int) := if (wrap64 (a1 - (l0.length : Int))) < 0 then (some (-1)) else (some (wrap64 (a1 - (l0.length : Int))))
set_option maxHeartbeats 8000000 in
set_option maxRecDepth 100000 in
theorem laws_szCalcS.calls (A0 : Option Addr) (c0 : Nat) (l0 : List (S230)) (a1 : Int) (r : Int) (w : World) (hr0 : Kd.C k230 w A0 l0.length l0) (hc0 : l0.length ≤ c0) (h : laws_szCalcS.f l0 a1 = some r) :
    Calls Try.prog 190 #[.slice A0 l0.length c0, .int .i64 a1] w fun e w' => e = .returned (.int .i64 r) ∧ Drawn0 w w' := by
  have HR0 := zK hr0
  have HC0 := zK hc0
  clear hr0 hc0
  have H : (if (wrap64 (a1 - (l0.length : Int))) < 0 then (some (-1)) else (some (wrap64 (a1 - (l0.length : Int))))) = some r := h
  clear h
  by_cases c3 : (wrap64 (a1 - (l0.length : Int))) < 0
  · rw [if_pos c3] at H
    have c3b0 : decide ((wrap64 (a1 - (l0.length : Int))) < 0) = true := decide_eq_true c3
    clear c3
    obtain rfl := Option.some.inj H
    go_enter Try.func190, Try.ntmps190
    go_wp2
    go_ret
    exact ⟨zR, zD⟩
  rw [if_neg c3] at H
  have c3b0 : decide ((wrap64 (a1 - (l0.length : Int))) < 0) = false := decide_eq_false c3
  clear c3
  obtain rfl := Option.some.inj H
  go_enter Try.func190, Try.ntmps190
  go_wp2
  go_ret
  exact ⟨zR, zD⟩

/-! ### laws_szKernel: function 145 -/
def laws_szKernel.f (k : Nat) (l0_0 : List Int) (l0_1 : List (S169)) (a0_2 : Int) (a0_3 : Int) (l0_4 : List Int) (a0_5 : Bool) (l0_6 : List (S230)) (a1 : Int) : Option (Int) := (laws_szIntS.f l0_0 a1).bind fun t110 => (if t110 < 0 then (some (-1)) else ((laws_szAccessS.f k l0_1 t110).bind fun t111 => (if t111 < 0 then (some (-1)) else ((laws_szAccess.f a0_2 a0_3 l0_4 t111).bind fun t112 => (if t112 < 0 then (some (-1)) else ((laws_szCalcS.f l0_6 t112).bind fun t113 => (if t113 < 0 then (some (-1)) else (some t113))))))))
theorem laws_szKernel.mono : ∀ a0 a1 a2 a3 a4 a5 a6 a7 k, LeO (laws_szKernel.f k a0 a1 a2 a3 a4 a5 a6 a7) (laws_szKernel.f (k + 1) a0 a1 a2 a3 a4 a5 a6 a7) := by
  intro a0 a1 a2 a3 a4 a5 a6 a7 k
  unfold laws_szKernel.f
  repeat' first
      | (with_reducible exact laws_szAccessS.mono _ _ _)
      | (with_reducible exact LeO.refl _)
      | (with_reducible exact LeO.none _)
      | (with_reducible refine LeO.ite ?_ ?_)
      | (with_reducible refine LeO.bind ?_ (fun _ => ?_))
      | exact laws_szAccessS.mono _ _ _
      | exact LeO.none _
      | refine LeO.ite ?_ ?_
      | refine LeO.bind ?_ (fun _ => ?_)
set_option maxHeartbeats 8000000 in
set_option maxRecDepth 100000 in
theorem laws_szKernel.calls (k : Nat) (A0_0 : Option Addr) (c0_0 : Nat) (l0_0 : List Int) (A0_1 : Option Addr) (c0_1 : Nat) (l0_1 : List (S169)) (a0_2 : Int) (a0_3 : Int) (A0_4 : Option Addr) (c0_4 : Nat) (l0_4 : List Int) (a0_5 : Bool) (A0_6 : Option Addr) (c0_6 : Nat) (l0_6 : List (S230)) (a1 : Int) (r : Int) (w : World) (hr0_0 : Kd.C (Kd.int .i64) w A0_0 l0_0.length l0_0) (hc0_0 : l0_0.length ≤ c0_0) (hr0_1 : Kd.C k169 w A0_1 l0_1.length l0_1) (hc0_1 : l0_1.length ≤ c0_1) (hr0_4 : Kd.C (Kd.int .i64) w A0_4 l0_4.length l0_4) (hc0_4 : l0_4.length ≤ c0_4) (hr0_6 : Kd.C k230 w A0_6 l0_6.length l0_6) (hc0_6 : l0_6.length ≤ c0_6) (h : laws_szKernel.f k l0_0 l0_1 a0_2 a0_3 l0_4 a0_5 l0_6 a1 = some r) :
    Calls Try.prog 145 #[.agg #[.slice A0_0 l0_0.length c0_0, .slice A0_1 l0_1.length c0_1, .int .i64 a0_2, .int .i64 a0_3, .slice A0_4 l0_4.length c0_4, .bool a0_5, .slice A0_6 l0_6.length c0_6], .int .i64 a1] w fun e w' => e = .returned (.int .i64 r) ∧ Below w.heap.size w w' := by
  have hu172 := Try.underlying172
  have hu169 := Try.underlying169
  have HR0_0 := zK hr0_0
  have HC0_0 := zK hc0_0
  clear hr0_0 hc0_0
  have HR0_1 := zK hr0_1
  have HC0_1 := zK hc0_1
  clear hr0_1 hc0_1
  have HR0_4 := zK hr0_4
  have HC0_4 := zK hc0_4
  clear hr0_4 hc0_4
  have HR0_6 := zK hr0_6
  have HC0_6 := zK hc0_6
  clear hr0_6 hc0_6
  have HB := zK (Below.refl w.heap.size w)
  have H : ((laws_szIntS.f l0_0 a1).bind fun t110 => (if t110 < 0 then (some (-1)) else ((laws_szAccessS.f k l0_1 t110).bind fun t111 => (if t111 < 0 then (some (-1)) else ((laws_szAccess.f a0_2 a0_3 l0_4 t111).bind fun t112 => (if t112 < 0 then (some (-1)) else ((laws_szCalcS.f l0_6 t112).bind fun t113 => (if t113 < 0 then (some (-1)) else (some t113))))))))) = some r := h
  clear h
  replace H := Option.bind_eq_some_iff.mp H
  obtain ⟨t110, A30, H⟩ := H
  replace H : (if t110 < 0 then (some (-1)) else ((laws_szAccessS.f k l0_1 t110).bind fun t111 => (if t111 < 0 then (some (-1)) else ((laws_szAccess.f a0_2 a0_3 l0_4 t111).bind fun t112 => (if t112 < 0 then (some (-1)) else ((laws_szCalcS.f l0_6 t112).bind fun t113 => (if t113 < 0 then (some (-1)) else (some t113)))))))) = some r := H
  have A3 := zK A30
  clear A30
  by_cases c4 : t110 < 0
  · rw [if_pos c4] at H
    have c4b0 : decide (t110 < 0) = true := decide_eq_true c4
    clear c4
    obtain rfl := Option.some.inj H
    go_enter Try.func145, Try.ntmps145
    go_wp2_with (first | ((with_reducible refine gate_dst (N := 2) rfl ?_); refine zJ 2 #[.slice A0_0 l0_0.length c0_0, .slice A0_1 l0_1.length c0_1, .int .i64 a0_2, .int .i64 a0_3, .slice A0_4 l0_4.length c0_4, .bool a0_5, .slice A0_6 l0_6.length c0_6] 172 ?_; intro gb109 hg w5 hbox hb; have n0_ := zK (zp zB hb); have n1_ := zK (hbox); have n2_ := zK (zI hg zB); have n3_ := zK (zI hg zB); clear HB; have HB := n0_; have BK109 := n1_; have GW109 := n2_; have GE109 := n3_; clear n0_ n1_ n2_ n3_; clear hb hbox hg; obtain ⟨hcz6_0, hcz6_1, hcz6_2, hcz6_3, hcz6_4, hcz6_5, hcz6_6, hfz6_0, hfz6_1, hfz6_2, hfz6_3, hfz6_4, hfz6_5, hfz6_6⟩ := zc7 BK109) | ((with_reducible refine gate_callee (f := 46) rfl ?_); refine zF 8 Try.func46 #[.slice A0_0 l0_0.length c0_0, .int .i64 a1] rfl zL ?_; (with_reducible refine (laws_szIntS.calls _ _ l0_0 a1 t110 _ ?side1 ?side2 A3.out).mono ?_); (case side1 => exact zC (Kd.C_below HR0_0.out HB.out)); (case side2 => exact HC0_0.out); rintro e w' ⟨rfl, ⟨nd, rfl⟩⟩; refine ⟨_, rfl, ?_⟩))
    go_ret
    exact ⟨zE, zB⟩
  rw [if_neg c4] at H
  have c4b0 : decide (t110 < 0) = false := decide_eq_false c4
  clear c4
  replace H := Option.bind_eq_some_iff.mp H
  obtain ⟨t111, A70, H⟩ := H
  replace H : (if t111 < 0 then (some (-1)) else ((laws_szAccess.f a0_2 a0_3 l0_4 t111).bind fun t112 => (if t112 < 0 then (some (-1)) else ((laws_szCalcS.f l0_6 t112).bind fun t113 => (if t113 < 0 then (some (-1)) else (some t113)))))) = some r := H
  have A7 := zK A70
  clear A70
  by_cases c8 : t111 < 0
  · rw [if_pos c8] at H
    have c8b0 : decide (t111 < 0) = true := decide_eq_true c8
    clear c8
    obtain rfl := Option.some.inj H
    go_enter Try.func145, Try.ntmps145
    go_wp2_with (first | ((with_reducible refine gate_dst (N := 2) rfl ?_); refine zJ 2 #[.slice A0_0 l0_0.length c0_0, .slice A0_1 l0_1.length c0_1, .int .i64 a0_2, .int .i64 a0_3, .slice A0_4 l0_4.length c0_4, .bool a0_5, .slice A0_6 l0_6.length c0_6] 172 ?_; intro gb109 hg w9 hbox hb; have n0_ := zK (zp zB hb); have n1_ := zK (hbox); have n2_ := zK (zI hg zB); have n3_ := zK (zI hg zB); clear HB; have HB := n0_; have BK109 := n1_; have GW109 := n2_; have GE109 := n3_; clear n0_ n1_ n2_ n3_; clear hb hbox hg; obtain ⟨hcz10_0, hcz10_1, hcz10_2, hcz10_3, hcz10_4, hcz10_5, hcz10_6, hfz10_0, hfz10_1, hfz10_2, hfz10_3, hfz10_4, hfz10_5, hfz10_6⟩ := zc7 BK109) | ((with_reducible refine gate_callee (f := 46) rfl ?_); refine zF 8 Try.func46 #[.slice A0_0 l0_0.length c0_0, .int .i64 a1] rfl zL ?_; (with_reducible refine (laws_szIntS.calls _ _ l0_0 a1 t110 _ ?side1 ?side2 A3.out).mono ?_); (case side1 => exact zC (Kd.C_below HR0_0.out HB.out)); (case side2 => exact HC0_0.out); rintro e w' ⟨rfl, ⟨nd, rfl⟩⟩; refine ⟨_, rfl, ?_⟩) | ((with_reducible refine gate_callee (f := 188) rfl ?_); refine zF 14 Try.func188 #[.slice A0_1 l0_1.length c0_1, .int .i64 t110] rfl zL ?_; (with_reducible refine (laws_szAccessS.calls k _ _ l0_1 t110 t111 _ ?side1 ?side2 A7.out).mono ?_); (case side1 => exact zC (Kd.C_below HR0_1.out zB)); (case side2 => exact HC0_1.out); rintro e w11 ⟨rfl, hb⟩; refine ⟨_, rfl, ?_⟩; have n0_ := zK (zg (zM BK109) hb); have n1_ := zK (zp zB hb); clear BK109; clear HB; have BK109 := n0_; have HB := n1_; clear n0_ n1_; (try clear hb); (try clear hb2); (try clear hk); (try clear hi)))
    go_ret
    exact ⟨zE, zB⟩
  rw [if_neg c8] at H
  have c8b0 : decide (t111 < 0) = false := decide_eq_false c8
  clear c8
  replace H := Option.bind_eq_some_iff.mp H
  obtain ⟨t112, A120, H⟩ := H
  replace H : (if t112 < 0 then (some (-1)) else ((laws_szCalcS.f l0_6 t112).bind fun t113 => (if t113 < 0 then (some (-1)) else (some t113)))) = some r := H
  have A12 := zK A120
  clear A120
  by_cases c13 : t112 < 0
  · rw [if_pos c13] at H
    have c13b0 : decide (t112 < 0) = true := decide_eq_true c13
    clear c13
    obtain rfl := Option.some.inj H
    go_enter Try.func145, Try.ntmps145
    go_wp2_with (first | ((with_reducible refine gate_dst (N := 2) rfl ?_); refine zJ 2 #[.slice A0_0 l0_0.length c0_0, .slice A0_1 l0_1.length c0_1, .int .i64 a0_2, .int .i64 a0_3, .slice A0_4 l0_4.length c0_4, .bool a0_5, .slice A0_6 l0_6.length c0_6] 172 ?_; intro gb109 hg w14 hbox hb; have n0_ := zK (zp zB hb); have n1_ := zK (hbox); have n2_ := zK (zI hg zB); have n3_ := zK (zI hg zB); clear HB; have HB := n0_; have BK109 := n1_; have GW109 := n2_; have GE109 := n3_; clear n0_ n1_ n2_ n3_; clear hb hbox hg; obtain ⟨hcz15_0, hcz15_1, hcz15_2, hcz15_3, hcz15_4, hcz15_5, hcz15_6, hfz15_0, hfz15_1, hfz15_2, hfz15_3, hfz15_4, hfz15_5, hfz15_6⟩ := zc7 BK109) | ((with_reducible refine gate_callee (f := 46) rfl ?_); refine zF 8 Try.func46 #[.slice A0_0 l0_0.length c0_0, .int .i64 a1] rfl zL ?_; (with_reducible refine (laws_szIntS.calls _ _ l0_0 a1 t110 _ ?side1 ?side2 A3.out).mono ?_); (case side1 => exact zC (Kd.C_below HR0_0.out HB.out)); (case side2 => exact HC0_0.out); rintro e w' ⟨rfl, ⟨nd, rfl⟩⟩; refine ⟨_, rfl, ?_⟩) | ((with_reducible refine gate_callee (f := 188) rfl ?_); refine zF 14 Try.func188 #[.slice A0_1 l0_1.length c0_1, .int .i64 t110] rfl zL ?_; (with_reducible refine (laws_szAccessS.calls k _ _ l0_1 t110 t111 _ ?side1 ?side2 A7.out).mono ?_); (case side1 => exact zC (Kd.C_below HR0_1.out zB)); (case side2 => exact HC0_1.out); rintro e w16 ⟨rfl, hb⟩; refine ⟨_, rfl, ?_⟩; have n0_ := zK (zg (zM BK109) hb); have n1_ := zK (zp zB hb); clear BK109; clear HB; have BK109 := n0_; have HB := n1_; clear n0_ n1_; (try clear hb); (try clear hb2); (try clear hk); (try clear hi); obtain ⟨hcz17_0, hcz17_1, hcz17_2, hcz17_3, hcz17_4, hcz17_5, hcz17_6, hfz17_0, hfz17_1, hfz17_2, hfz17_3, hfz17_4, hfz17_5, hfz17_6⟩ := zc7 BK109) | ((with_reducible refine gate_callee (f := 189) rfl ?_); refine zF 20 Try.func189 #[.agg #[.int .i64 a0_2, .int .i64 a0_3, .slice A0_4 l0_4.length c0_4], .int .i64 t111] rfl zL ?_; (with_reducible refine (laws_szAccess.calls a0_2 a0_3 _ _ l0_4 t111 t112 _ ?side1 ?side2 A12.out).mono ?_); (case side1 => exact zC (Kd.C_below HR0_4.out HB.out)); (case side2 => exact HC0_4.out); rintro e w18 ⟨rfl, hb⟩; refine ⟨_, rfl, ?_⟩; have n0_ := zK (zg (zM BK109) hb); have n1_ := zK (zp zB hb); clear BK109; clear HB; have BK109 := n0_; have HB := n1_; clear n0_ n1_; (try clear hb); (try clear hb2); (try clear hk); (try clear hi)))
    go_ret
    exact ⟨zE, zB⟩
  rw [if_neg c13] at H
  have c13b0 : decide (t112 < 0) = false := decide_eq_false c13
  clear c13
  replace H := Option.bind_eq_some_iff.mp H
  obtain ⟨t113, A190, H⟩ := H
  replace H : (if t113 < 0 then (some (-1)) else (some t113)) = some r := H
  have A19 := zK A190
  clear A190
  by_cases c20 : t113 < 0
  · rw [if_pos c20] at H
    have c20b0 : decide (t113 < 0) = true := decide_eq_true c20
    clear c20
    obtain rfl := Option.some.inj H
    go_enter Try.func145, Try.ntmps145
    go_wp2_with (first | ((with_reducible refine gate_dst (N := 2) rfl ?_); refine zJ 2 #[.slice A0_0 l0_0.length c0_0, .slice A0_1 l0_1.length c0_1, .int .i64 a0_2, .int .i64 a0_3, .slice A0_4 l0_4.length c0_4, .bool a0_5, .slice A0_6 l0_6.length c0_6] 172 ?_; intro gb109 hg w21 hbox hb; have n0_ := zK (zp zB hb); have n1_ := zK (hbox); have n2_ := zK (zI hg zB); have n3_ := zK (zI hg zB); clear HB; have HB := n0_; have BK109 := n1_; have GW109 := n2_; have GE109 := n3_; clear n0_ n1_ n2_ n3_; clear hb hbox hg; obtain ⟨hcz22_0, hcz22_1, hcz22_2, hcz22_3, hcz22_4, hcz22_5, hcz22_6, hfz22_0, hfz22_1, hfz22_2, hfz22_3, hfz22_4, hfz22_5, hfz22_6⟩ := zc7 BK109) | ((with_reducible refine gate_callee (f := 46) rfl ?_); refine zF 8 Try.func46 #[.slice A0_0 l0_0.length c0_0, .int .i64 a1] rfl zL ?_; (with_reducible refine (laws_szIntS.calls _ _ l0_0 a1 t110 _ ?side1 ?side2 A3.out).mono ?_); (case side1 => exact zC (Kd.C_below HR0_0.out HB.out)); (case side2 => exact HC0_0.out); rintro e w' ⟨rfl, ⟨nd, rfl⟩⟩; refine ⟨_, rfl, ?_⟩) | ((with_reducible refine gate_callee (f := 188) rfl ?_); refine zF 14 Try.func188 #[.slice A0_1 l0_1.length c0_1, .int .i64 t110] rfl zL ?_; (with_reducible refine (laws_szAccessS.calls k _ _ l0_1 t110 t111 _ ?side1 ?side2 A7.out).mono ?_); (case side1 => exact zC (Kd.C_below HR0_1.out zB)); (case side2 => exact HC0_1.out); rintro e w23 ⟨rfl, hb⟩; refine ⟨_, rfl, ?_⟩; have n0_ := zK (zg (zM BK109) hb); have n1_ := zK (zp zB hb); clear BK109; clear HB; have BK109 := n0_; have HB := n1_; clear n0_ n1_; (try clear hb); (try clear hb2); (try clear hk); (try clear hi); obtain ⟨hcz24_0, hcz24_1, hcz24_2, hcz24_3, hcz24_4, hcz24_5, hcz24_6, hfz24_0, hfz24_1, hfz24_2, hfz24_3, hfz24_4, hfz24_5, hfz24_6⟩ := zc7 BK109) | ((with_reducible refine gate_callee (f := 189) rfl ?_); refine zF 20 Try.func189 #[.agg #[.int .i64 a0_2, .int .i64 a0_3, .slice A0_4 l0_4.length c0_4], .int .i64 t111] rfl zL ?_; (with_reducible refine (laws_szAccess.calls a0_2 a0_3 _ _ l0_4 t111 t112 _ ?side1 ?side2 A12.out).mono ?_); (case side1 => exact zC (Kd.C_below HR0_4.out HB.out)); (case side2 => exact HC0_4.out); rintro e w25 ⟨rfl, hb⟩; refine ⟨_, rfl, ?_⟩; have n0_ := zK (zg (zM BK109) hb); have n1_ := zK (zp zB hb); clear BK109; clear HB; have BK109 := n0_; have HB := n1_; clear n0_ n1_; (try clear hb); (try clear hb2); (try clear hk); (try clear hi); obtain ⟨hcz26_0, hcz26_1, hcz26_2, hcz26_3, hcz26_4, hcz26_5, hcz26_6, hfz26_0, hfz26_1, hfz26_2, hfz26_3, hfz26_4, hfz26_5, hfz26_6⟩ := zc7 BK109) | ((with_reducible refine gate_callee (f := 190) rfl ?_); refine zF 26 Try.func190 #[.slice A0_6 l0_6.length c0_6, .int .i64 t112] rfl zL ?_; (with_reducible refine (laws_szCalcS.calls _ _ l0_6 t112 t113 _ ?side1 ?side2 A19.out).mono ?_); (case side1 => exact zC (Kd.C_below HR0_6.out HB.out)); (case side2 => exact HC0_6.out); rintro e w' ⟨rfl, ⟨nd, rfl⟩⟩; refine ⟨_, rfl, ?_⟩))
    go_ret
    exact ⟨zE, zB⟩
  rw [if_neg c20] at H
  have c20b0 : decide (t113 < 0) = false := decide_eq_false c20
  clear c20
  obtain rfl := Option.some.inj H
  go_enter Try.func145, Try.ntmps145
  go_wp2_with (first | ((with_reducible refine gate_dst (N := 2) rfl ?_); refine zJ 2 #[.slice A0_0 l0_0.length c0_0, .slice A0_1 l0_1.length c0_1, .int .i64 a0_2, .int .i64 a0_3, .slice A0_4 l0_4.length c0_4, .bool a0_5, .slice A0_6 l0_6.length c0_6] 172 ?_; intro gb109 hg w27 hbox hb; have n0_ := zK (zp zB hb); have n1_ := zK (hbox); have n2_ := zK (zI hg zB); have n3_ := zK (zI hg zB); clear HB; have HB := n0_; have BK109 := n1_; have GW109 := n2_; have GE109 := n3_; clear n0_ n1_ n2_ n3_; clear hb hbox hg; obtain ⟨hcz28_0, hcz28_1, hcz28_2, hcz28_3, hcz28_4, hcz28_5, hcz28_6, hfz28_0, hfz28_1, hfz28_2, hfz28_3, hfz28_4, hfz28_5, hfz28_6⟩ := zc7 BK109) | ((with_reducible refine gate_callee (f := 46) rfl ?_); refine zF 8 Try.func46 #[.slice A0_0 l0_0.length c0_0, .int .i64 a1] rfl zL ?_; (with_reducible refine (laws_szIntS.calls _ _ l0_0 a1 t110 _ ?side1 ?side2 A3.out).mono ?_); (case side1 => exact zC (Kd.C_below HR0_0.out HB.out)); (case side2 => exact HC0_0.out); rintro e w' ⟨rfl, ⟨nd, rfl⟩⟩; refine ⟨_, rfl, ?_⟩) | ((with_reducible refine gate_callee (f := 188) rfl ?_); refine zF 14 Try.func188 #[.slice A0_1 l0_1.length c0_1, .int .i64 t110] rfl zL ?_; (with_reducible refine (laws_szAccessS.calls k _ _ l0_1 t110 t111 _ ?side1 ?side2 A7.out).mono ?_); (case side1 => exact zC (Kd.C_below HR0_1.out zB)); (case side2 => exact HC0_1.out); rintro e w29 ⟨rfl, hb⟩; refine ⟨_, rfl, ?_⟩; have n0_ := zK (zg (zM BK109) hb); have n1_ := zK (zp zB hb); clear BK109; clear HB; have BK109 := n0_; have HB := n1_; clear n0_ n1_; (try clear hb); (try clear hb2); (try clear hk); (try clear hi); obtain ⟨hcz30_0, hcz30_1, hcz30_2, hcz30_3, hcz30_4, hcz30_5, hcz30_6, hfz30_0, hfz30_1, hfz30_2, hfz30_3, hfz30_4, hfz30_5, hfz30_6⟩ := zc7 BK109) | ((with_reducible refine gate_callee (f := 189) rfl ?_); refine zF 20 Try.func189 #[.agg #[.int .i64 a0_2, .int .i64 a0_3, .slice A0_4 l0_4.length c0_4], .int .i64 t111] rfl zL ?_; (with_reducible refine (laws_szAccess.calls a0_2 a0_3 _ _ l0_4 t111 t112 _ ?side1 ?side2 A12.out).mono ?_); (case side1 => exact zC (Kd.C_below HR0_4.out HB.out)); (case side2 => exact HC0_4.out); rintro e w31 ⟨rfl, hb⟩; refine ⟨_, rfl, ?_⟩; have n0_ := zK (zg (zM BK109) hb); have n1_ := zK (zp zB hb); clear BK109; clear HB; have BK109 := n0_; have HB := n1_; clear n0_ n1_; (try clear hb); (try clear hb2); (try clear hk); (try clear hi); obtain ⟨hcz32_0, hcz32_1, hcz32_2, hcz32_3, hcz32_4, hcz32_5, hcz32_6, hfz32_0, hfz32_1, hfz32_2, hfz32_3, hfz32_4, hfz32_5, hfz32_6⟩ := zc7 BK109) | ((with_reducible refine gate_callee (f := 190) rfl ?_); refine zF 26 Try.func190 #[.slice A0_6 l0_6.length c0_6, .int .i64 t112] rfl zL ?_; (with_reducible refine (laws_szCalcS.calls _ _ l0_6 t112 t113 _ ?side1 ?side2 A19.out).mono ?_); (case side1 => exact zC (Kd.C_below HR0_6.out HB.out)); (case side2 => exact HC0_6.out); rintro e w' ⟨rfl, ⟨nd, rfl⟩⟩; refine ⟨_, rfl, ?_⟩))
  go_ret
  exact ⟨zE, zB⟩

/-! ### laws_szKernelS: function 84 -/
def laws_szKernelS.l0 : Nat → List (S172) → Int → Int → Option (Int)
  | 0, _, _, _ => none
  | k + 1, x0, x1, x5 => if x5 < (x0.length : Int) then (if 0 ≤ x5 then ((laws_szKernel.f k ((rd_T172 x0 x5).f0) ((rd_T172 x0 x5).f1) ((rd_T172 x0 x5).f2.f0) ((rd_T172 x0 x5).f2.f1) ((rd_T172 x0 x5).f2.f2) ((rd_T172 x0 x5).f3) ((rd_T172 x0 x5).f4) x1).bind fun t115 => (if t115 < 0 then (some (-1)) else (laws_szKernelS.l0 k x0 t115 (wrap64 (x5 + 1))))) else (none)) else (some x1)
def laws_szKernelS.f (k : Nat) (l0 : List (S172)) (a1 : Int) : Option (Int) := if (wrap64 (a1 - (l0.length : Int))) < 0 then (some (-1)) else (laws_szKernelS.l0 k l0 (wrap64 (a1 - (l0.length : Int))) 0)
theorem laws_szKernelS.mono_l : ∀ k, (∀ y0 y1 y2, LeO (laws_szKernelS.l0 k y0 y1 y2) (laws_szKernelS.l0 (k + 1) y0 y1 y2))
  | 0 => fun _ _ _ r h => by simp [laws_szKernelS.l0] at h
  | k + 1 => by
    have ih0 := laws_szKernelS.mono_l k
    · intro y0 y1 y2
      unfold laws_szKernelS.l0
      repeat' first
      | (with_reducible exact ih0 _ _ _)
      | (with_reducible exact laws_szKernel.mono _ _ _ _ _ _ _ _ _)
      | (with_reducible exact LeO.refl _)
      | (with_reducible exact LeO.none _)
      | (with_reducible refine LeO.ite ?_ ?_)
      | (with_reducible refine LeO.bind ?_ (fun _ => ?_))
      | exact ih0 _ _ _
      | exact laws_szKernel.mono _ _ _ _ _ _ _ _ _
      | exact LeO.none _
      | refine LeO.ite ?_ ?_
      | refine LeO.bind ?_ (fun _ => ?_)
theorem laws_szKernelS.mono : ∀ a0 a1 k, LeO (laws_szKernelS.f k a0 a1) (laws_szKernelS.f (k + 1) a0 a1) := by
  intro a0 a1 k
  have ih0 := laws_szKernelS.mono_l k
  unfold laws_szKernelS.f
  repeat' first
      | (with_reducible exact ih0 _ _ _)
      | (with_reducible exact laws_szKernel.mono _ _ _ _ _ _ _ _ _)
      | (with_reducible exact LeO.refl _)
      | (with_reducible exact LeO.none _)
      | (with_reducible refine LeO.ite ?_ ?_)
      | (with_reducible refine LeO.bind ?_ (fun _ => ?_))
      | exact ih0 _ _ _
      | exact laws_szKernel.mono _ _ _ _ _ _ _ _ _
      | exact LeO.none _
      | refine LeO.ite ?_ ?_
      | refine LeO.bind ?_ (fun _ => ?_)
set_option maxHeartbeats 8000000 in
set_option maxRecDepth 100000 in
theorem laws_szKernelS.calls (k : Nat) (A0 : Option Addr) (c0 : Nat) (l0 : List (S172)) (a1 : Int) (r : Int) (w : World) (hr0 : Kd.C k172 w A0 l0.length l0) (hc0 : l0.length ≤ c0) (h : laws_szKernelS.f k l0 a1 = some r) :
    Calls Try.prog 84 #[.slice A0 l0.length c0, .int .i64 a1] w fun e w' => e = .returned (.int .i64 r) ∧ Below w.heap.size w w' := by
  have hu172 := Try.underlying172
  have HR0 := zK hr0
  have HC0 := zK hc0
  clear hr0 hc0
  have HB := zK (Below.refl w.heap.size w)
  have H : (if (wrap64 (a1 - (l0.length : Int))) < 0 then (some (-1)) else (laws_szKernelS.l0 k l0 (wrap64 (a1 - (l0.length : Int))) 0)) = some r := h
  clear h
  by_cases c3 : (wrap64 (a1 - (l0.length : Int))) < 0
  · rw [if_pos c3] at H
    have c3b0 : decide ((wrap64 (a1 - (l0.length : Int))) < 0) = true := decide_eq_true c3
    clear c3
    obtain rfl := Option.some.inj H
    go_enter Try.func84, Try.ntmps84
    go_wp2
    go_ret
    exact ⟨zE, zB⟩
  rw [if_neg c3] at H
  have c3b0 : decide ((wrap64 (a1 - (l0.length : Int))) < 0) = false := decide_eq_false c3
  clear c3
  have H' := zK H
  clear H
  go_enter Try.func84, Try.ntmps84
  go_wp2
  go_loopg [1, 5] k (fun kq v1 v5 w' => ∃ (x1_1 : Int) (x5_1 : Int), v1 = .int .i64 x1_1 ∧ v5 = .int .i64 x5_1 ∧ Aside0 (laws_szKernelS.l0 kq l0 x1_1 x5_1 = some r) ∧ Aside0 (kq ≤ k) ∧ Aside0 (Below w.heap.size w w'))
  case atStart => exact ⟨(wrap64 (a1 - (l0.length : Int))), (0), zR, zR, H', ⟨Nat.le_refl _⟩, ⟨zB⟩⟩
  clear H'
  try clear p2
  try clear c3
  try clear c3b0
  obtain ⟨x1_1, x5_1, rfl, rfl, HA, HK1, HB⟩ := hrel
  rcases gk with _ | k1
  · exact absurd HA.out (by simp [laws_szKernelS.l0])
  have H := HA.out
  clear HA
  simp only [laws_szKernelS.l0] at H
  by_cases c4 : x5_1 < (l0.length : Int)
  rotate_left
  · rw [if_neg c4] at H
    have c4b0 : decide (x5_1 < (l0.length : Int)) = false := decide_eq_false c4
    clear c4
    obtain rfl := Option.some.inj H
    go_wp2
    go_ret
    exact ⟨zE, zB⟩
  rw [if_pos c4] at H
  have c4b0 : decide (x5_1 < (l0.length : Int)) = true := decide_eq_true c4
  clear c4
  by_cases c5 : 0 ≤ x5_1
  rotate_left
  · rw [if_neg c5] at H
    exact absurd H (by simp)
  rw [if_pos c5] at H
  have c5b0 : decide (0 ≤ x5_1) = true := decide_eq_true c5
  clear c5
  replace H := Option.bind_eq_some_iff.mp H
  obtain ⟨t115, A60, H⟩ := H
  replace H : (if t115 < 0 then (some (-1)) else (laws_szKernelS.l0 k1 l0 t115 (wrap64 (x5_1 + 1)))) = some r := H
  have A6 := zK A60
  clear A60
  by_cases c7 : t115 < 0
  · rw [if_pos c7] at H
    have c7b0 : decide (t115 < 0) = true := decide_eq_true c7
    clear c7
    obtain rfl := Option.some.inj H
    have p114 : 0 ≤ (x5_1 : Int) := of_decide_eq_true zA
    have q114 : x5_1 < (l0.length : Int) := of_decide_eq_true zA
    obtain ⟨ad114, A114_0, c114_0, A114_1, c114_1, A114_4, c114_4, A114_6, c114_6, e114, hx114_0, hx114_1, hx114_2, hx114_3, hx114_4, hx114_5, hx114_6, hl114_0, hi114_0, hl114_1, hi114_1, hl114_4, hi114_4, hl114_6, hi114_6⟩ := at_T172 HR0.out x5_1 p114 q114
    cases e114
    (try replace hx114_0 := zX HB hx114_0)
    (try replace hx114_1 := zX HB hx114_1)
    (try replace hx114_2 := zX HB hx114_2)
    (try replace hx114_3 := zX HB hx114_3)
    (try replace hx114_4 := zX HB hx114_4)
    (try replace hx114_5 := zX HB hx114_5)
    (try replace hx114_6 := zX HB hx114_6)
    have HR114_0 := zK hi114_0
    have HC114_0 := zK hl114_0
    clear hi114_0 hl114_0
    have HR114_1 := zK hi114_1
    have HC114_1 := zK hl114_1
    clear hi114_1 hl114_1
    have HR114_4 := zK hi114_4
    have HC114_4 := zK hl114_4
    clear hi114_4 hl114_4
    have HR114_6 := zK hi114_6
    have HC114_6 := zK hl114_6
    clear hi114_6 hl114_6
    replace p114 := eq_true p114
    replace q114 := eq_true q114
    go_wp2_with (first | ((with_reducible refine gate_callee (f := 145) rfl ?_); refine zF 23 Try.func145 #[.agg #[.slice A114_0 ((rd_T172 l0 x5_1).f0).length c114_0, .slice A114_1 ((rd_T172 l0 x5_1).f1).length c114_1, .int .i64 ((rd_T172 l0 x5_1).f2.f0), .int .i64 ((rd_T172 l0 x5_1).f2.f1), .slice A114_4 ((rd_T172 l0 x5_1).f2.f2).length c114_4, .bool ((rd_T172 l0 x5_1).f3), .slice A114_6 ((rd_T172 l0 x5_1).f4).length c114_6], .int .i64 x1_1] rfl zL ?_; (with_reducible refine (laws_szKernel.calls k1 _ _ ((rd_T172 l0 x5_1).f0) _ _ ((rd_T172 l0 x5_1).f1) ((rd_T172 l0 x5_1).f2.f0) ((rd_T172 l0 x5_1).f2.f1) _ _ ((rd_T172 l0 x5_1).f2.f2) ((rd_T172 l0 x5_1).f3) _ _ ((rd_T172 l0 x5_1).f4) x1_1 t115 _ ?side1 ?side2 ?side3 ?side4 ?side5 ?side6 ?side7 ?side8 A6.out).mono ?_); (case side1 => exact zC (Kd.C_below HR114_0.out HB.out)); (case side2 => exact HC114_0.out); (case side3 => exact zC (Kd.C_below HR114_1.out HB.out)); (case side4 => exact HC114_1.out); (case side5 => exact zC (Kd.C_below HR114_4.out HB.out)); (case side6 => exact HC114_4.out); (case side7 => exact zC (Kd.C_below HR114_6.out HB.out)); (case side8 => exact HC114_6.out); rintro e w8 ⟨rfl, hb⟩; refine ⟨_, rfl, ?_⟩; have n0_ := zK (zp zB hb); clear HB; have HB := n0_; clear n0_; (try clear hb); (try clear hb2); (try clear hk); (try clear hi)))
    go_ret
    exact ⟨zE, zB⟩
  rw [if_neg c7] at H
  have c7b0 : decide (t115 < 0) = false := decide_eq_false c7
  clear c7
  have H' := zK H
  clear H
  have p114 : 0 ≤ (x5_1 : Int) := of_decide_eq_true zA
  have q114 : x5_1 < (l0.length : Int) := of_decide_eq_true zA
  obtain ⟨ad114, A114_0, c114_0, A114_1, c114_1, A114_4, c114_4, A114_6, c114_6, e114, hx114_0, hx114_1, hx114_2, hx114_3, hx114_4, hx114_5, hx114_6, hl114_0, hi114_0, hl114_1, hi114_1, hl114_4, hi114_4, hl114_6, hi114_6⟩ := at_T172 HR0.out x5_1 p114 q114
  cases e114
  (try replace hx114_0 := zX HB hx114_0)
  (try replace hx114_1 := zX HB hx114_1)
  (try replace hx114_2 := zX HB hx114_2)
  (try replace hx114_3 := zX HB hx114_3)
  (try replace hx114_4 := zX HB hx114_4)
  (try replace hx114_5 := zX HB hx114_5)
  (try replace hx114_6 := zX HB hx114_6)
  have HR114_0 := zK hi114_0
  have HC114_0 := zK hl114_0
  clear hi114_0 hl114_0
  have HR114_1 := zK hi114_1
  have HC114_1 := zK hl114_1
  clear hi114_1 hl114_1
  have HR114_4 := zK hi114_4
  have HC114_4 := zK hl114_4
  clear hi114_4 hl114_4
  have HR114_6 := zK hi114_6
  have HC114_6 := zK hl114_6
  clear hi114_6 hl114_6
  replace p114 := eq_true p114
  replace q114 := eq_true q114
  go_wp2_with (first | ((with_reducible refine gate_callee (f := 145) rfl ?_); refine zF 23 Try.func145 #[.agg #[.slice A114_0 ((rd_T172 l0 x5_1).f0).length c114_0, .slice A114_1 ((rd_T172 l0 x5_1).f1).length c114_1, .int .i64 ((rd_T172 l0 x5_1).f2.f0), .int .i64 ((rd_T172 l0 x5_1).f2.f1), .slice A114_4 ((rd_T172 l0 x5_1).f2.f2).length c114_4, .bool ((rd_T172 l0 x5_1).f3), .slice A114_6 ((rd_T172 l0 x5_1).f4).length c114_6], .int .i64 x1_1] rfl zL ?_; (with_reducible refine (laws_szKernel.calls k1 _ _ ((rd_T172 l0 x5_1).f0) _ _ ((rd_T172 l0 x5_1).f1) ((rd_T172 l0 x5_1).f2.f0) ((rd_T172 l0 x5_1).f2.f1) _ _ ((rd_T172 l0 x5_1).f2.f2) ((rd_T172 l0 x5_1).f3) _ _ ((rd_T172 l0 x5_1).f4) x1_1 t115 _ ?side1 ?side2 ?side3 ?side4 ?side5 ?side6 ?side7 ?side8 A6.out).mono ?_); (case side1 => exact zC (Kd.C_below HR114_0.out HB.out)); (case side2 => exact HC114_0.out); (case side3 => exact zC (Kd.C_below HR114_1.out HB.out)); (case side4 => exact HC114_1.out); (case side5 => exact zC (Kd.C_below HR114_4.out HB.out)); (case side6 => exact HC114_4.out); (case side7 => exact zC (Kd.C_below HR114_6.out HB.out)); (case side8 => exact HC114_6.out); rintro e w9 ⟨rfl, hb⟩; refine ⟨_, rfl, ?_⟩; have n0_ := zK (zp zB hb); clear HB; have HB := n0_; clear n0_; (try clear hb); (try clear hb2); (try clear hk); (try clear hi)))
  go_roundg k1
  case measure => have := HK1.out; omega
  case rel => exact ⟨(t115), (wrap64 (x5_1 + 1)), zR, zR, H', ⟨by have := HK1.out; omega⟩, ⟨zB⟩⟩

/-! ### laws_szNest: function 31 -/
def laws_szNest.f (k : Nat) (l0_0 : List Int) (l0_1 : List Int) (l0_2 : List (S166)) (l0_3 : List (S172)) (l0_4 : List Int) (a1 : Int) : Option (Int) := (laws_szIntS.f l0_0 a1).bind fun t117 => (if t117 < 0 then (some (-1)) else ((laws_szIntS.f l0_1 t117).bind fun t118 => (if t118 < 0 then (some (-1)) else ((laws_szFixS.f k l0_2 t118).bind fun t119 => (if t119 < 0 then (some (-1)) else ((laws_szKernelS.f k l0_3 t119).bind fun t120 => (if t120 < 0 then (some (-1)) else ((laws_szIntS.f l0_4 t120).bind fun t121 => (if t121 < 0 then (some (-1)) else (some t121))))))))))
theorem laws_szNest.mono : ∀ a0 a1 a2 a3 a4 a5 k, LeO (laws_szNest.f k a0 a1 a2 a3 a4 a5) (laws_szNest.f (k + 1) a0 a1 a2 a3 a4 a5) := by
  intro a0 a1 a2 a3 a4 a5 k
  unfold laws_szNest.f
  repeat' first
      | (with_reducible exact laws_szFixS.mono _ _ _)
      | (with_reducible exact laws_szKernelS.mono _ _ _)
      | (with_reducible exact LeO.refl _)
      | (with_reducible exact LeO.none _)
      | (with_reducible refine LeO.ite ?_ ?_)
      | (with_reducible refine LeO.bind ?_ (fun _ => ?_))
      | exact laws_szFixS.mono _ _ _
      | exact laws_szKernelS.mono _ _ _
      | exact LeO.none _
      | refine LeO.ite ?_ ?_
      | refine LeO.bind ?_ (fun _ => ?_)
set_option maxHeartbeats 8000000 in
set_option maxRecDepth 100000 in
theorem laws_szNest.calls (k : Nat) (A0_0 : Option Addr) (c0_0 : Nat) (l0_0 : List Int) (A0_1 : Option Addr) (c0_1 : Nat) (l0_1 : List Int) (A0_2 : Option Addr) (c0_2 : Nat) (l0_2 : List (S166)) (A0_3 : Option Addr) (c0_3 : Nat) (l0_3 : List (S172)) (A0_4 : Option Addr) (c0_4 : Nat) (l0_4 : List Int) (a1 : Int) (r : Int) (w : World) (hr0_0 : Kd.C (Kd.int .i64) w A0_0 l0_0.length l0_0) (hc0_0 : l0_0.length ≤ c0_0) (hr0_1 : Kd.C (Kd.int .i64) w A0_1 l0_1.length l0_1) (hc0_1 : l0_1.length ≤ c0_1) (hr0_2 : Kd.C k166 w A0_2 l0_2.length l0_2) (hc0_2 : l0_2.length ≤ c0_2) (hr0_3 : Kd.C k172 w A0_3 l0_3.length l0_3) (hc0_3 : l0_3.length ≤ c0_3) (hr0_4 : Kd.C (Kd.int .i64) w A0_4 l0_4.length l0_4) (hc0_4 : l0_4.length ≤ c0_4) (h : laws_szNest.f k l0_0 l0_1 l0_2 l0_3 l0_4 a1 = some r) :
    Calls Try.prog 31 #[.agg #[.slice A0_0 l0_0.length c0_0, .slice A0_1 l0_1.length c0_1, .slice A0_2 l0_2.length c0_2, .slice A0_3 l0_3.length c0_3, .slice A0_4 l0_4.length c0_4], .int .i64 a1] w fun e w' => e = .returned (.int .i64 r) ∧ Below w.heap.size w w' := by
  have hu64 := Try.underlying64
  have HR0_0 := zK hr0_0
  have HC0_0 := zK hc0_0
  clear hr0_0 hc0_0
  have HR0_1 := zK hr0_1
  have HC0_1 := zK hc0_1
  clear hr0_1 hc0_1
  have HR0_2 := zK hr0_2
  have HC0_2 := zK hc0_2
  clear hr0_2 hc0_2
  have HR0_3 := zK hr0_3
  have HC0_3 := zK hc0_3
  clear hr0_3 hc0_3
  have HR0_4 := zK hr0_4
  have HC0_4 := zK hc0_4
  clear hr0_4 hc0_4
  have HB := zK (Below.refl w.heap.size w)
  have H : ((laws_szIntS.f l0_0 a1).bind fun t117 => (if t117 < 0 then (some (-1)) else ((laws_szIntS.f l0_1 t117).bind fun t118 => (if t118 < 0 then (some (-1)) else ((laws_szFixS.f k l0_2 t118).bind fun t119 => (if t119 < 0 then (some (-1)) else ((laws_szKernelS.f k l0_3 t119).bind fun t120 => (if t120 < 0 then (some (-1)) else ((laws_szIntS.f l0_4 t120).bind fun t121 => (if t121 < 0 then (some (-1)) else (some t121))))))))))) = some r := h
  clear h
  replace H := Option.bind_eq_some_iff.mp H
  obtain ⟨t117, A30, H⟩ := H
  replace H : (if t117 < 0 then (some (-1)) else ((laws_szIntS.f l0_1 t117).bind fun t118 => (if t118 < 0 then (some (-1)) else ((laws_szFixS.f k l0_2 t118).bind fun t119 => (if t119 < 0 then (some (-1)) else ((laws_szKernelS.f k l0_3 t119).bind fun t120 => (if t120 < 0 then (some (-1)) else ((laws_szIntS.f l0_4 t120).bind fun t121 => (if t121 < 0 then (some (-1)) else (some t121)))))))))) = some r := H
  have A3 := zK A30
  clear A30
  by_cases c4 : t117 < 0
  · rw [if_pos c4] at H
    have c4b0 : decide (t117 < 0) = true := decide_eq_true c4
    clear c4
    obtain rfl := Option.some.inj H
    go_enter Try.func31, Try.ntmps31
    go_wp2_with (first | ((with_reducible refine gate_dst (N := 2) rfl ?_); refine zJ 2 #[.slice A0_0 l0_0.length c0_0, .slice A0_1 l0_1.length c0_1, .slice A0_2 l0_2.length c0_2, .slice A0_3 l0_3.length c0_3, .slice A0_4 l0_4.length c0_4] 64 ?_; intro gb116 hg w5 hbox hb; have n0_ := zK (zp zB hb); have n1_ := zK (hbox); have n2_ := zK (zI hg zB); have n3_ := zK (zI hg zB); clear HB; have HB := n0_; have BK116 := n1_; have GW116 := n2_; have GE116 := n3_; clear n0_ n1_ n2_ n3_; clear hb hbox hg; obtain ⟨hcz6_0, hcz6_1, hcz6_2, hcz6_3, hcz6_4, hfz6_0, hfz6_1, hfz6_2, hfz6_3, hfz6_4⟩ := zc5 BK116) | ((with_reducible refine gate_callee (f := 46) rfl ?_); refine zF 8 Try.func46 #[.slice A0_0 l0_0.length c0_0, .int .i64 a1] rfl zL ?_; (with_reducible refine (laws_szIntS.calls _ _ l0_0 a1 t117 _ ?side1 ?side2 A3.out).mono ?_); (case side1 => exact zC (Kd.C_below HR0_0.out HB.out)); (case side2 => exact HC0_0.out); rintro e w' ⟨rfl, ⟨nd, rfl⟩⟩; refine ⟨_, rfl, ?_⟩))
    go_ret
    exact ⟨zE, zB⟩
  rw [if_neg c4] at H
  have c4b0 : decide (t117 < 0) = false := decide_eq_false c4
  clear c4
  replace H := Option.bind_eq_some_iff.mp H
  obtain ⟨t118, A70, H⟩ := H
  replace H : (if t118 < 0 then (some (-1)) else ((laws_szFixS.f k l0_2 t118).bind fun t119 => (if t119 < 0 then (some (-1)) else ((laws_szKernelS.f k l0_3 t119).bind fun t120 => (if t120 < 0 then (some (-1)) else ((laws_szIntS.f l0_4 t120).bind fun t121 => (if t121 < 0 then (some (-1)) else (some t121)))))))) = some r := H
  have A7 := zK A70
  clear A70
  by_cases c8 : t118 < 0
  · rw [if_pos c8] at H
    have c8b0 : decide (t118 < 0) = true := decide_eq_true c8
    clear c8
    obtain rfl := Option.some.inj H
    go_enter Try.func31, Try.ntmps31
    go_wp2_with (first | ((with_reducible refine gate_dst (N := 2) rfl ?_); refine zJ 2 #[.slice A0_0 l0_0.length c0_0, .slice A0_1 l0_1.length c0_1, .slice A0_2 l0_2.length c0_2, .slice A0_3 l0_3.length c0_3, .slice A0_4 l0_4.length c0_4] 64 ?_; intro gb116 hg w9 hbox hb; have n0_ := zK (zp zB hb); have n1_ := zK (hbox); have n2_ := zK (zI hg zB); have n3_ := zK (zI hg zB); clear HB; have HB := n0_; have BK116 := n1_; have GW116 := n2_; have GE116 := n3_; clear n0_ n1_ n2_ n3_; clear hb hbox hg; obtain ⟨hcz10_0, hcz10_1, hcz10_2, hcz10_3, hcz10_4, hfz10_0, hfz10_1, hfz10_2, hfz10_3, hfz10_4⟩ := zc5 BK116) | ((with_reducible refine gate_callee (f := 46) rfl ?_); refine zF 8 Try.func46 #[.slice A0_0 l0_0.length c0_0, .int .i64 a1] rfl zL ?_; (with_reducible refine (laws_szIntS.calls _ _ l0_0 a1 t117 _ ?side1 ?side2 A3.out).mono ?_); (case side1 => exact zC (Kd.C_below HR0_0.out HB.out)); (case side2 => exact HC0_0.out); rintro e w' ⟨rfl, ⟨nd, rfl⟩⟩; refine ⟨_, rfl, ?_⟩) | ((with_reducible refine gate_callee (f := 46) rfl ?_); refine zF 14 Try.func46 #[.slice A0_1 l0_1.length c0_1, .int .i64 t117] rfl zL ?_; (with_reducible refine (laws_szIntS.calls _ _ l0_1 t117 t118 _ ?side1 ?side2 A7.out).mono ?_); (case side1 => exact zC (Kd.C_below HR0_1.out zB)); (case side2 => exact HC0_1.out); rintro e w' ⟨rfl, ⟨nd, rfl⟩⟩; refine ⟨_, rfl, ?_⟩))
    go_ret
    exact ⟨zE, zB⟩
  rw [if_neg c8] at H
  have c8b0 : decide (t118 < 0) = false := decide_eq_false c8
  clear c8
  replace H := Option.bind_eq_some_iff.mp H
  obtain ⟨t119, A110, H⟩ := H
  replace H : (if t119 < 0 then (some (-1)) else ((laws_szKernelS.f k l0_3 t119).bind fun t120 => (if t120 < 0 then (some (-1)) else ((laws_szIntS.f l0_4 t120).bind fun t121 => (if t121 < 0 then (some (-1)) else (some t121)))))) = some r := H
  have A11 := zK A110
  clear A110
  by_cases c12 : t119 < 0
  · rw [if_pos c12] at H
    have c12b0 : decide (t119 < 0) = true := decide_eq_true c12
    clear c12
    obtain rfl := Option.some.inj H
    go_enter Try.func31, Try.ntmps31
    go_wp2_with (first | ((with_reducible refine gate_dst (N := 2) rfl ?_); refine zJ 2 #[.slice A0_0 l0_0.length c0_0, .slice A0_1 l0_1.length c0_1, .slice A0_2 l0_2.length c0_2, .slice A0_3 l0_3.length c0_3, .slice A0_4 l0_4.length c0_4] 64 ?_; intro gb116 hg w13 hbox hb; have n0_ := zK (zp zB hb); have n1_ := zK (hbox); have n2_ := zK (zI hg zB); have n3_ := zK (zI hg zB); clear HB; have HB := n0_; have BK116 := n1_; have GW116 := n2_; have GE116 := n3_; clear n0_ n1_ n2_ n3_; clear hb hbox hg; obtain ⟨hcz14_0, hcz14_1, hcz14_2, hcz14_3, hcz14_4, hfz14_0, hfz14_1, hfz14_2, hfz14_3, hfz14_4⟩ := zc5 BK116) | ((with_reducible refine gate_callee (f := 46) rfl ?_); refine zF 8 Try.func46 #[.slice A0_0 l0_0.length c0_0, .int .i64 a1] rfl zL ?_; (with_reducible refine (laws_szIntS.calls _ _ l0_0 a1 t117 _ ?side1 ?side2 A3.out).mono ?_); (case side1 => exact zC (Kd.C_below HR0_0.out HB.out)); (case side2 => exact HC0_0.out); rintro e w' ⟨rfl, ⟨nd, rfl⟩⟩; refine ⟨_, rfl, ?_⟩) | ((with_reducible refine gate_callee (f := 46) rfl ?_); refine zF 14 Try.func46 #[.slice A0_1 l0_1.length c0_1, .int .i64 t117] rfl zL ?_; (with_reducible refine (laws_szIntS.calls _ _ l0_1 t117 t118 _ ?side1 ?side2 A7.out).mono ?_); (case side1 => exact zC (Kd.C_below HR0_1.out zB)); (case side2 => exact HC0_1.out); rintro e w' ⟨rfl, ⟨nd, rfl⟩⟩; refine ⟨_, rfl, ?_⟩) | ((with_reducible refine gate_callee (f := 83) rfl ?_); refine zF 20 Try.func83 #[.slice A0_2 l0_2.length c0_2, .int .i64 t118] rfl zL ?_; (with_reducible refine (laws_szFixS.calls k _ _ l0_2 t118 t119 _ ?side1 ?side2 A11.out).mono ?_); (case side1 => exact zC (Kd.C_below HR0_2.out zB)); (case side2 => exact HC0_2.out); rintro e w15 ⟨rfl, hb⟩; refine ⟨_, rfl, ?_⟩; have n0_ := zK (zg (zM BK116) hb); have n1_ := zK (zp zB hb); clear BK116; clear HB; have BK116 := n0_; have HB := n1_; clear n0_ n1_; (try clear hb); (try clear hb2); (try clear hk); (try clear hi)))
    go_ret
    exact ⟨zE, zB⟩
  rw [if_neg c12] at H
  have c12b0 : decide (t119 < 0) = false := decide_eq_false c12
  clear c12
  replace H := Option.bind_eq_some_iff.mp H
  obtain ⟨t120, A160, H⟩ := H
  replace H : (if t120 < 0 then (some (-1)) else ((laws_szIntS.f l0_4 t120).bind fun t121 => (if t121 < 0 then (some (-1)) else (some t121)))) = some r := H
  have A16 := zK A160
  clear A160
  by_cases c17 : t120 < 0
  · rw [if_pos c17] at H
    have c17b0 : decide (t120 < 0) = true := decide_eq_true c17
    clear c17
    obtain rfl := Option.some.inj H
    go_enter Try.func31, Try.ntmps31
    go_wp2_with (first | ((with_reducible refine gate_dst (N := 2) rfl ?_); refine zJ 2 #[.slice A0_0 l0_0.length c0_0, .slice A0_1 l0_1.length c0_1, .slice A0_2 l0_2.length c0_2, .slice A0_3 l0_3.length c0_3, .slice A0_4 l0_4.length c0_4] 64 ?_; intro gb116 hg w18 hbox hb; have n0_ := zK (zp zB hb); have n1_ := zK (hbox); have n2_ := zK (zI hg zB); have n3_ := zK (zI hg zB); clear HB; have HB := n0_; have BK116 := n1_; have GW116 := n2_; have GE116 := n3_; clear n0_ n1_ n2_ n3_; clear hb hbox hg; obtain ⟨hcz19_0, hcz19_1, hcz19_2, hcz19_3, hcz19_4, hfz19_0, hfz19_1, hfz19_2, hfz19_3, hfz19_4⟩ := zc5 BK116) | ((with_reducible refine gate_callee (f := 46) rfl ?_); refine zF 8 Try.func46 #[.slice A0_0 l0_0.length c0_0, .int .i64 a1] rfl zL ?_; (with_reducible refine (laws_szIntS.calls _ _ l0_0 a1 t117 _ ?side1 ?side2 A3.out).mono ?_); (case side1 => exact zC (Kd.C_below HR0_0.out HB.out)); (case side2 => exact HC0_0.out); rintro e w' ⟨rfl, ⟨nd, rfl⟩⟩; refine ⟨_, rfl, ?_⟩) | ((with_reducible refine gate_callee (f := 46) rfl ?_); refine zF 14 Try.func46 #[.slice A0_1 l0_1.length c0_1, .int .i64 t117] rfl zL ?_; (with_reducible refine (laws_szIntS.calls _ _ l0_1 t117 t118 _ ?side1 ?side2 A7.out).mono ?_); (case side1 => exact zC (Kd.C_below HR0_1.out zB)); (case side2 => exact HC0_1.out); rintro e w' ⟨rfl, ⟨nd, rfl⟩⟩; refine ⟨_, rfl, ?_⟩) | ((with_reducible refine gate_callee (f := 83) rfl ?_); refine zF 20 Try.func83 #[.slice A0_2 l0_2.length c0_2, .int .i64 t118] rfl zL ?_; (with_reducible refine (laws_szFixS.calls k _ _ l0_2 t118 t119 _ ?side1 ?side2 A11.out).mono ?_); (case side1 => exact zC (Kd.C_below HR0_2.out zB)); (case side2 => exact HC0_2.out); rintro e w20 ⟨rfl, hb⟩; refine ⟨_, rfl, ?_⟩; have n0_ := zK (zg (zM BK116) hb); have n1_ := zK (zp zB hb); clear BK116; clear HB; have BK116 := n0_; have HB := n1_; clear n0_ n1_; (try clear hb); (try clear hb2); (try clear hk); (try clear hi); obtain ⟨hcz21_0, hcz21_1, hcz21_2, hcz21_3, hcz21_4, hfz21_0, hfz21_1, hfz21_2, hfz21_3, hfz21_4⟩ := zc5 BK116) | ((with_reducible refine gate_callee (f := 84) rfl ?_); refine zF 26 Try.func84 #[.slice A0_3 l0_3.length c0_3, .int .i64 t119] rfl zL ?_; (with_reducible refine (laws_szKernelS.calls k _ _ l0_3 t119 t120 _ ?side1 ?side2 A16.out).mono ?_); (case side1 => exact zC (Kd.C_below HR0_3.out HB.out)); (case side2 => exact HC0_3.out); rintro e w22 ⟨rfl, hb⟩; refine ⟨_, rfl, ?_⟩; have n0_ := zK (zg (zM BK116) hb); have n1_ := zK (zp zB hb); clear BK116; clear HB; have BK116 := n0_; have HB := n1_; clear n0_ n1_; (try clear hb); (try clear hb2); (try clear hk); (try clear hi)))
    go_ret
    exact ⟨zE, zB⟩
  rw [if_neg c17] at H
  have c17b0 : decide (t120 < 0) = false := decide_eq_false c17
  clear c17
  replace H := Option.bind_eq_some_iff.mp H
  obtain ⟨t121, A230, H⟩ := H
  replace H : (if t121 < 0 then (some (-1)) else (some t121)) = some r := H
  have A23 := zK A230
  clear A230
  by_cases c24 : t121 < 0
  · rw [if_pos c24] at H
    have c24b0 : decide (t121 < 0) = true := decide_eq_true c24
    clear c24
    obtain rfl := Option.some.inj H
    go_enter Try.func31, Try.ntmps31
    go_wp2_with (first | ((with_reducible refine gate_dst (N := 2) rfl ?_); refine zJ 2 #[.slice A0_0 l0_0.length c0_0, .slice A0_1 l0_1.length c0_1, .slice A0_2 l0_2.length c0_2, .slice A0_3 l0_3.length c0_3, .slice A0_4 l0_4.length c0_4] 64 ?_; intro gb116 hg w25 hbox hb; have n0_ := zK (zp zB hb); have n1_ := zK (hbox); have n2_ := zK (zI hg zB); have n3_ := zK (zI hg zB); clear HB; have HB := n0_; have BK116 := n1_; have GW116 := n2_; have GE116 := n3_; clear n0_ n1_ n2_ n3_; clear hb hbox hg; obtain ⟨hcz26_0, hcz26_1, hcz26_2, hcz26_3, hcz26_4, hfz26_0, hfz26_1, hfz26_2, hfz26_3, hfz26_4⟩ := zc5 BK116) | ((with_reducible refine gate_callee (f := 46) rfl ?_); refine zF 8 Try.func46 #[.slice A0_0 l0_0.length c0_0, .int .i64 a1] rfl zL ?_; (with_reducible refine (laws_szIntS.calls _ _ l0_0 a1 t117 _ ?side1 ?side2 A3.out).mono ?_); (case side1 => exact zC (Kd.C_below HR0_0.out HB.out)); (case side2 => exact HC0_0.out); rintro e w' ⟨rfl, ⟨nd, rfl⟩⟩; refine ⟨_, rfl, ?_⟩) | ((with_reducible refine gate_callee (f := 46) rfl ?_); refine zF 14 Try.func46 #[.slice A0_1 l0_1.length c0_1, .int .i64 t117] rfl zL ?_; (with_reducible refine (laws_szIntS.calls _ _ l0_1 t117 t118 _ ?side1 ?side2 A7.out).mono ?_); (case side1 => exact zC (Kd.C_below HR0_1.out zB)); (case side2 => exact HC0_1.out); rintro e w' ⟨rfl, ⟨nd, rfl⟩⟩; refine ⟨_, rfl, ?_⟩) | ((with_reducible refine gate_callee (f := 83) rfl ?_); refine zF 20 Try.func83 #[.slice A0_2 l0_2.length c0_2, .int .i64 t118] rfl zL ?_; (with_reducible refine (laws_szFixS.calls k _ _ l0_2 t118 t119 _ ?side1 ?side2 A11.out).mono ?_); (case side1 => exact zC (Kd.C_below HR0_2.out zB)); (case side2 => exact HC0_2.out); rintro e w27 ⟨rfl, hb⟩; refine ⟨_, rfl, ?_⟩; have n0_ := zK (zg (zM BK116) hb); have n1_ := zK (zp zB hb); clear BK116; clear HB; have BK116 := n0_; have HB := n1_; clear n0_ n1_; (try clear hb); (try clear hb2); (try clear hk); (try clear hi); obtain ⟨hcz28_0, hcz28_1, hcz28_2, hcz28_3, hcz28_4, hfz28_0, hfz28_1, hfz28_2, hfz28_3, hfz28_4⟩ := zc5 BK116) | ((with_reducible refine gate_callee (f := 84) rfl ?_); refine zF 26 Try.func84 #[.slice A0_3 l0_3.length c0_3, .int .i64 t119] rfl zL ?_; (with_reducible refine (laws_szKernelS.calls k _ _ l0_3 t119 t120 _ ?side1 ?side2 A16.out).mono ?_); (case side1 => exact zC (Kd.C_below HR0_3.out HB.out)); (case side2 => exact HC0_3.out); rintro e w29 ⟨rfl, hb⟩; refine ⟨_, rfl, ?_⟩; have n0_ := zK (zg (zM BK116) hb); have n1_ := zK (zp zB hb); clear BK116; clear HB; have BK116 := n0_; have HB := n1_; clear n0_ n1_; (try clear hb); (try clear hb2); (try clear hk); (try clear hi); obtain ⟨hcz30_0, hcz30_1, hcz30_2, hcz30_3, hcz30_4, hfz30_0, hfz30_1, hfz30_2, hfz30_3, hfz30_4⟩ := zc5 BK116) | ((with_reducible refine gate_callee (f := 46) rfl ?_); refine zF 32 Try.func46 #[.slice A0_4 l0_4.length c0_4, .int .i64 t120] rfl zL ?_; (with_reducible refine (laws_szIntS.calls _ _ l0_4 t120 t121 _ ?side1 ?side2 A23.out).mono ?_); (case side1 => exact zC (Kd.C_below HR0_4.out HB.out)); (case side2 => exact HC0_4.out); rintro e w' ⟨rfl, ⟨nd, rfl⟩⟩; refine ⟨_, rfl, ?_⟩))
    go_ret
    exact ⟨zE, zB⟩
  rw [if_neg c24] at H
  have c24b0 : decide (t121 < 0) = false := decide_eq_false c24
  clear c24
  obtain rfl := Option.some.inj H
  go_enter Try.func31, Try.ntmps31
  go_wp2_with (first | ((with_reducible refine gate_dst (N := 2) rfl ?_); refine zJ 2 #[.slice A0_0 l0_0.length c0_0, .slice A0_1 l0_1.length c0_1, .slice A0_2 l0_2.length c0_2, .slice A0_3 l0_3.length c0_3, .slice A0_4 l0_4.length c0_4] 64 ?_; intro gb116 hg w31 hbox hb; have n0_ := zK (zp zB hb); have n1_ := zK (hbox); have n2_ := zK (zI hg zB); have n3_ := zK (zI hg zB); clear HB; have HB := n0_; have BK116 := n1_; have GW116 := n2_; have GE116 := n3_; clear n0_ n1_ n2_ n3_; clear hb hbox hg; obtain ⟨hcz32_0, hcz32_1, hcz32_2, hcz32_3, hcz32_4, hfz32_0, hfz32_1, hfz32_2, hfz32_3, hfz32_4⟩ := zc5 BK116) | ((with_reducible refine gate_callee (f := 46) rfl ?_); refine zF 8 Try.func46 #[.slice A0_0 l0_0.length c0_0, .int .i64 a1] rfl zL ?_; (with_reducible refine (laws_szIntS.calls _ _ l0_0 a1 t117 _ ?side1 ?side2 A3.out).mono ?_); (case side1 => exact zC (Kd.C_below HR0_0.out HB.out)); (case side2 => exact HC0_0.out); rintro e w' ⟨rfl, ⟨nd, rfl⟩⟩; refine ⟨_, rfl, ?_⟩) | ((with_reducible refine gate_callee (f := 46) rfl ?_); refine zF 14 Try.func46 #[.slice A0_1 l0_1.length c0_1, .int .i64 t117] rfl zL ?_; (with_reducible refine (laws_szIntS.calls _ _ l0_1 t117 t118 _ ?side1 ?side2 A7.out).mono ?_); (case side1 => exact zC (Kd.C_below HR0_1.out zB)); (case side2 => exact HC0_1.out); rintro e w' ⟨rfl, ⟨nd, rfl⟩⟩; refine ⟨_, rfl, ?_⟩) | ((with_reducible refine gate_callee (f := 83) rfl ?_); refine zF 20 Try.func83 #[.slice A0_2 l0_2.length c0_2, .int .i64 t118] rfl zL ?_; (with_reducible refine (laws_szFixS.calls k _ _ l0_2 t118 t119 _ ?side1 ?side2 A11.out).mono ?_); (case side1 => exact zC (Kd.C_below HR0_2.out zB)); (case side2 => exact HC0_2.out); rintro e w33 ⟨rfl, hb⟩; refine ⟨_, rfl, ?_⟩; have n0_ := zK (zg (zM BK116) hb); have n1_ := zK (zp zB hb); clear BK116; clear HB; have BK116 := n0_; have HB := n1_; clear n0_ n1_; (try clear hb); (try clear hb2); (try clear hk); (try clear hi); obtain ⟨hcz34_0, hcz34_1, hcz34_2, hcz34_3, hcz34_4, hfz34_0, hfz34_1, hfz34_2, hfz34_3, hfz34_4⟩ := zc5 BK116) | ((with_reducible refine gate_callee (f := 84) rfl ?_); refine zF 26 Try.func84 #[.slice A0_3 l0_3.length c0_3, .int .i64 t119] rfl zL ?_; (with_reducible refine (laws_szKernelS.calls k _ _ l0_3 t119 t120 _ ?side1 ?side2 A16.out).mono ?_); (case side1 => exact zC (Kd.C_below HR0_3.out HB.out)); (case side2 => exact HC0_3.out); rintro e w35 ⟨rfl, hb⟩; refine ⟨_, rfl, ?_⟩; have n0_ := zK (zg (zM BK116) hb); have n1_ := zK (zp zB hb); clear BK116; clear HB; have BK116 := n0_; have HB := n1_; clear n0_ n1_; (try clear hb); (try clear hb2); (try clear hk); (try clear hi); obtain ⟨hcz36_0, hcz36_1, hcz36_2, hcz36_3, hcz36_4, hfz36_0, hfz36_1, hfz36_2, hfz36_3, hfz36_4⟩ := zc5 BK116) | ((with_reducible refine gate_callee (f := 46) rfl ?_); refine zF 32 Try.func46 #[.slice A0_4 l0_4.length c0_4, .int .i64 t120] rfl zL ?_; (with_reducible refine (laws_szIntS.calls _ _ l0_4 t120 t121 _ ?side1 ?side2 A23.out).mono ?_); (case side1 => exact zC (Kd.C_below HR0_4.out HB.out)); (case side2 => exact HC0_4.out); rintro e w' ⟨rfl, ⟨nd, rfl⟩⟩; refine ⟨_, rfl, ?_⟩))
  go_ret
  exact ⟨zE, zB⟩

end Go.Proofs.Ytkfagiojcjnfkaa.PFnExactNestOk
