-- Printed out of the translation by this session's own turned copy of a printer; Lean checks it.
import Derived.Test.YtkfagiojcjnfkaaPFnExactNestOkx0
namespace Go.Proofs.Ytkfagiojcjnfkaa.PFnExactNestOk
open Go.RowKit Go.Proofs.YtkfagiojcjnfkaaW.PrintWords Go.Proofs.YtkfagiojcjnfkaaW.PrintLast Go.Proofs.YtkfagiojcjnfkaaW.PrintMore
attribute [local go_sem] max2_int min2_int max_two min_two max_three min_three max_four min_four   -- for this text's walks alone
set_option linter.unusedVariables false
set_option linter.unusedSimpArgs false

/-! ### impl_work: function 151 -/
mutual
def impl_work.l0 : Nat → List Int → Int → List Int → Int → Int → Option (Int × Bool)
  | 0, _, _, _, _, _ => none
  | k + 1, x0, x4, x7, x8, x9 => if x9 < x8 then (if 0 ≤ x9 then (if x9 < (x7.length : Int) then (if (rd x7 x9) < 1 then (impl_work.j1 k x0 x4 (rd x7 x9) x7 x8 x9 true) else (impl_work.j1 k x0 x4 (rd x7 x9) x7 x8 x9 (decide ((rd x7 x9) > 65536)))) else (none)) else (none)) else (some (x4, decide ((x0.length : Int) ≤ 12)))
def impl_work.j1 : Nat → List Int → Int → Int → List Int → Int → Int → Bool → Option (Int × Bool)
  | 0, _, _, _, _, _, _, _ => none
  | k + 1, x0, x4, x6, x7, x8, x9, x18 => if x18 = true then (some (0, false)) else (if (wrap64 (x4 * x6)) > 65536 then (some (0, false)) else (impl_work.l0 k x0 (wrap64 (x4 * x6)) x7 x8 (wrap64 (x9 + 1))))
end
def impl_work.f (k : Nat) (l0 : List Int) : Option (Int × Bool) := impl_work.l0 k l0 1 l0 (l0.length : Int) 0
theorem impl_work.mono_l : ∀ k, (∀ y0 y1 y2 y3 y4, LeO (impl_work.l0 k y0 y1 y2 y3 y4) (impl_work.l0 (k + 1) y0 y1 y2 y3 y4)) ∧ (∀ y0 y1 y2 y3 y4 y5 y6, LeO (impl_work.j1 k y0 y1 y2 y3 y4 y5 y6) (impl_work.j1 (k + 1) y0 y1 y2 y3 y4 y5 y6))
  | 0 => ⟨fun _ _ _ _ _ r h => by simp [impl_work.l0] at h, fun _ _ _ _ _ _ _ r h => by simp [impl_work.j1] at h⟩
  | k + 1 => by
    obtain ⟨ih0, ih1⟩ := impl_work.mono_l k
    refine ⟨?_, ?_⟩
    all_goals (intros; first | unfold impl_work.l0 | unfold impl_work.j1)
    all_goals repeat' first
      | (with_reducible exact ih0 _ _ _ _ _)
      | (with_reducible exact ih1 _ _ _ _ _ _ _)
      | (with_reducible exact LeO.refl _)
      | (with_reducible exact LeO.none _)
      | (with_reducible refine LeO.ite ?_ ?_)
      | (with_reducible refine LeO.bind ?_ (fun _ => ?_))
      | exact ih0 _ _ _ _ _
      | exact ih1 _ _ _ _ _ _ _
      | exact LeO.none _
      | refine LeO.ite ?_ ?_
      | refine LeO.bind ?_ (fun _ => ?_)
theorem impl_work.mono : ∀ a0 k, LeO (impl_work.f k a0) (impl_work.f (k + 1) a0) := by
  intro a0 k
  obtain ⟨ih0, ih1⟩ := impl_work.mono_l k
  unfold impl_work.f
  repeat' first
      | (with_reducible exact ih0 _ _ _ _ _)
      | (with_reducible exact ih1 _ _ _ _ _ _ _)
      | (with_reducible exact LeO.refl _)
      | (with_reducible exact LeO.none _)
      | (with_reducible refine LeO.ite ?_ ?_)
      | (with_reducible refine LeO.bind ?_ (fun _ => ?_))
      | exact ih0 _ _ _ _ _
      | exact ih1 _ _ _ _ _ _ _
      | exact LeO.none _
      | refine LeO.ite ?_ ?_
      | refine LeO.bind ?_ (fun _ => ?_)
set_option maxHeartbeats 8000000 in
set_option maxRecDepth 100000 in
theorem impl_work.calls (k : Nat) (A0 : Option Addr) (c0 : Nat) (l0 : List Int) (r1 : Int) (r2 : Bool) (w : World) (hr0 : Kd.C (Kd.int .i64) w A0 l0.length l0) (hc0 : l0.length ≤ c0) (h : impl_work.f k l0 = some (r1, r2)) :
    Calls Try.prog 151 #[.slice A0 l0.length c0] w fun e w' => e = .returned (.tuple #[.int .i64 r1, .bool r2]) ∧ Drawn0 w w' := by
  have HR0 := zK hr0
  have HC0 := zK hc0
  clear hr0 hc0
  have H : (impl_work.l0 k l0 1 l0 (l0.length : Int) 0) = some (r1, r2) := h
  clear h
  have H' := zK H
  clear H
  go_enter Try.func151, Try.ntmps151
  go_wp2
  go_loopg [4, 9] k (fun kq v4 v9 w' => ∃ (x4_1 : Int) (x9_1 : Int), v4 = .int .i64 x4_1 ∧ v9 = .int .i64 x9_1 ∧ Aside0 (impl_work.l0 kq l0 x4_1 l0 (l0.length : Int) x9_1 = some (r1, r2)) ∧ Aside0 (kq ≤ k) ∧ Drawn0 w w')
  case atStart => exact ⟨(1), (0), zR, zR, H', ⟨Nat.le_refl _⟩, zD⟩
  clear H'
  try clear c1
  obtain ⟨x4_1, x9_1, rfl, rfl, HA, HK1, ⟨m1, rfl⟩⟩ := hrel
  rcases gk with _ | k1
  · exact absurd HA.out (by simp [impl_work.l0])
  have H := HA.out
  clear HA
  simp only [impl_work.l0] at H
  by_cases c2 : x9_1 < (l0.length : Int)
  rotate_left
  · rw [if_neg c2] at H
    have c2b0 : decide (x9_1 < (l0.length : Int)) = false := decide_eq_false c2
    clear c2
    simp only [Option.some.injEq, Prod.mk.injEq] at H
    obtain ⟨rfl, rfl⟩ := H
    go_wp2
    go_ret2
    exact ⟨zR, zD⟩
  rw [if_pos c2] at H
  have c2b0 : decide (x9_1 < (l0.length : Int)) = true := decide_eq_true c2
  clear c2
  by_cases c3 : 0 ≤ x9_1
  rotate_left
  · rw [if_neg c3] at H
    exact absurd H (by simp)
  rw [if_pos c3] at H
  have c3b0 : decide (0 ≤ x9_1) = true := decide_eq_true c3
  clear c3
  by_cases c4 : x9_1 < (l0.length : Int)
  rotate_left
  · rw [if_neg c4] at H
    exact absurd H (by simp)
  rw [if_pos c4] at H
  have c4b0 : decide (x9_1 < (l0.length : Int)) = true := decide_eq_true c4
  clear c4
  have HC5 := zK H
  clear H
  have p282 : 0 ≤ (x9_1 : Int) := of_decide_eq_true zA
  have q282 : x9_1 < (l0.length : Int) := of_decide_eq_true zA
  obtain ⟨ad282, e282, hx282_0⟩ := Kd.at_int HR0.out x9_1 p282 q282
  cases e282
  replace p282 := eq_true p282
  replace q282 := eq_true q282
  go_upto_region 5 with (fail)
  go_cut [18] (fun v18 wc => ∃ (kq : Nat) (x18_4 : Bool), v18 = .bool x18_4 ∧ Aside0 (impl_work.j1 kq l0 x4_1 (rd l0 x9_1) l0 (l0.length : Int) x9_1 x18_4 = some (r1, r2)) ∧ Aside0 (kq ≤ k1) ∧ Drawn0 w wc)
  case first =>
   have H := HC5.out
   clear HC5
   by_cases c6 : (rd l0 x9_1) < 1
   · rw [if_pos c6] at H
     have c6b0 : decide ((rd l0 x9_1) < 1) = true := decide_eq_true c6
     clear c6
     (first | rw [c6b0] | (simp only [i64_w, i32_w]; rw [c6b0]) | skip)
     have H' := zK H
     clear H
     go_wp2
     go_meet
     case rel => exact ⟨_, (true), zR, H', ⟨by have := HK1.out; first | omega | exact Nat.le_refl _⟩, zD⟩
   rw [if_neg c6] at H
   have c6b0 : decide ((rd l0 x9_1) < 1) = false := decide_eq_false c6
   clear c6
   (first | rw [c6b0] | (simp only [i64_w, i32_w]; rw [c6b0]) | skip)
   have H' := zK H
   clear H
   go_wp2
   go_meet
   case rel => exact ⟨_, (decide ((rd l0 x9_1) > 65536)), zR, H', ⟨by have := HK1.out; first | omega | exact Nat.le_refl _⟩, zD⟩
  case rest =>
   clear HC5
   try clear c1
   try clear c2
   try clear c2b0
   try clear p2
   try clear q2
   try clear hx2
   try clear c3
   try clear c3b0
   try clear c4
   try clear c4b0
   try clear c6
   try clear c6b0
   try clear hx282_0
   try clear p282
   try clear q282
   obtain ⟨kq, x18_4, rfl, HA, HJ4, ⟨mc4, rfl⟩⟩ := hcut
   cases kq with
   | zero => exact absurd HA.out (by simp [impl_work.j1])
   | succ kj4 =>
    have H := HA.out
    clear HA
    simp only [impl_work.j1] at H
    by_cases c7 : x18_4 = true
    · subst c7
      have H1 : (some (0, false)) = some (r1, r2) := by rw [if_pos rfl] at H; exact H
      clear H
      have H := H1
      clear H1
      simp only [Option.some.injEq, Prod.mk.injEq] at H
      obtain ⟨rfl, rfl⟩ := H
      go_wp2
      go_ret2
      exact ⟨zR, zD⟩
    replace c7 := Bool.eq_false_iff.mpr c7
    subst c7
    have H1 : (if (wrap64 (x4_1 * (rd l0 x9_1))) > 65536 then (some (0, false)) else (impl_work.l0 kj4 l0 (wrap64 (x4_1 * (rd l0 x9_1))) l0 (l0.length : Int) (wrap64 (x9_1 + 1)))) = some (r1, r2) := by rw [if_neg (show ¬ (false = true) by decide)] at H; exact H
    clear H
    have H := H1
    clear H1
    by_cases c8 : (wrap64 (x4_1 * (rd l0 x9_1))) > 65536
    · rw [if_pos c8] at H
      have c8b0 : decide (65536 < (wrap64 (x4_1 * (rd l0 x9_1)))) = true := decide_eq_true c8
      clear c8
      simp only [Option.some.injEq, Prod.mk.injEq] at H
      obtain ⟨rfl, rfl⟩ := H
      go_wp2
      go_ret2
      exact ⟨zR, zD⟩
    rw [if_neg c8] at H
    have c8b0 : decide (65536 < (wrap64 (x4_1 * (rd l0 x9_1)))) = false := decide_eq_false c8
    clear c8
    have H' := zK H
    clear H
    go_wp2
    go_roundg kj4
    case measure => have := HK1.out; have := HJ4.out; omega
    case rel => exact ⟨(wrap64 (x4_1 * (rd l0 x9_1))), (wrap64 (x9_1 + 1)), zR, zR, H', ⟨by have := HK1.out; have := HJ4.out; omega⟩, zD⟩

end Go.Proofs.Ytkfagiojcjnfkaa.PFnExactNestOk
