-- Printed out of the translation by this session's own turned copy of a printer; Lean checks it.
import Derived.Test.YtmcboiffbcnalaaPFnExactPlanOkx0
namespace Go.Proofs.Ytmcboiffbcnalaa.PFnExactPlanOk
open Go.RowKit Go.Proofs.YtmcboiffbcnalaaW.PrintWords Go.Proofs.YtmcboiffbcnalaaW.PrintLast Go.Proofs.YtmcboiffbcnalaaW.PrintMore
attribute [local go_sem] max2_int min2_int max_two min_two max_three min_three max_four min_four
set_option linter.unusedVariables false
set_option linter.unusedSimpArgs false
set_option maxHeartbeats 8000000
set_option maxRecDepth 100000
mutual
def impl_work.l0 : Nat → List Int → Int → List Int → Int → Int → Option (Int × Bool)
 | 0, _, _, _, _, _ => none
 | k + 1, q, u, l, x, a => if a < x then (if 0 ≤ a then (if a < (l.length : Int) then (if (rd l a) < 1 then (impl_work.j1 k q u (rd l a) l x a true) else (impl_work.j1 k q u (rd l a) l x a (decide ((rd l a) > 65536)))) else (none)) else (none)) else (some (u, decide ((q.length : Int) ≤ 12)))
def impl_work.j1 : Nat → List Int → Int → Int → List Int → Int → Int → Bool → Option (Int × Bool)
 | 0, _, _, _, _, _, _, _ => none
 | k + 1, u, a, l, x, y, z, q => if q = true then (some (0, false)) else (if (wrap64 (a * l)) > 65536 then (some (0, false)) else (impl_work.l0 k u (wrap64 (a * l)) x y (wrap64 (z + 1))))
end
def impl_work.f (k : Nat) (a : List Int) : Option (Int × Bool) := impl_work.l0 k a 1 a (a.length : Int) 0
theorem impl_work.calls (k) (A0) (c0) (l : List Int) (r1) (r2 : Bool) (w) (U : Kd.C (Kd.int .i64) w A0 l.length l) (X : l.length ≤ c0) (h : impl_work.f k l = some (r1, r2)) :
 Calls Try.prog 67 #[.slice A0 l.length c0] w fun e w' => e = .returned (.tuple #[.int .i64 r1, .bool r2]) ∧ Drawn0 w w' := by
 have j0 := zK U
 have o0 := zK X
 clear U X
 have H : (impl_work.l0 k l 1 l (l.length : Int) 0) = some (r1, r2) := h
 clear h
 have H' := zK H
 clear H
 go_enter Try.func67, Try.ntmps67
 go_wp2
 go_loopg [4, 9] k (fun kq v4 v9 w' => ∃ (q : Int) (a : Int), v4 = .int .i64 q ∧ v9 = .int .i64 a ∧ Aside0 (impl_work.l0 kq l q l (l.length : Int) a = some (r1, r2)) ∧ Aside0 (kq ≤ k) ∧ Drawn0 w w')
 case atStart => exact ⟨(1), (0), zR, zR, H', ⟨Nat.le_refl _⟩, zD⟩
 clear H'
 obtain ⟨q, a, rfl, rfl, HA, D, ⟨m1, rfl⟩⟩ := hrel
 rcases gk with _ | k1
 · exact absurd HA.out (by simp [impl_work.l0])
 have H := HA.out
 clear HA
 simp only [impl_work.l0] at H
 by_cases A : a < (l.length : Int)
 rotate_left
 · rw [if_neg A] at H
   have J := z2 A
   clear A
   simp only [Option.some.injEq, Prod.mk.injEq] at H
   obtain ⟨rfl, rfl⟩ := H
   go_wp2
   go_ret2
   exact ⟨zR, zD⟩
 rw [if_pos A] at H
 have J := z1 A
 clear A
 by_cases L : 0 ≤ a
 rotate_left
 · rw [if_neg L] at H
   exact absurd H (by simp)
 rw [if_pos L] at H
 have b0 := z1 L
 clear L
 by_cases M : a < (l.length : Int)
 rotate_left
 · rw [if_neg M] at H
   exact absurd H (by simp)
 rw [if_pos M] at H
 have d0 := z1 M
 clear M
 have O := zK H
 clear H
 have y : 0 ≤ (a : Int) := z3
 have z : a < (l.length : Int) := z3
 obtain ⟨n0, e0, E⟩ := Kd.at_int j0.out a y z
 cases e0
 replace y := eq_true y
 replace z := eq_true z
 go_upto_region 5 with (fail)
 go_cut [18] (fun v18 wc => ∃ (kq : Nat) (x : Bool), v18 = .bool x ∧ Aside0 (impl_work.j1 kq l q (rd l a) l (l.length : Int) a x = some (r1, r2)) ∧ Aside0 (kq ≤ k1) ∧ Drawn0 w wc)
 case first =>
  have H := O.out
  clear O
  by_cases B : (rd l a) < 1
  · rw [if_pos B] at H
    have u := z1 B
    clear B
    (first | rw [u] | (simp only [i64_w, i32_w]; rw [u]) | skip)
    have H' := zK H
    clear H
    go_wp2
    go_meet
    case rel => exact ⟨_, (true), zR, H', ⟨by have := D.out; first | omega | exact Nat.le_refl _⟩, zD⟩
  rw [if_neg B] at H
  have u := z2 B
  clear B
  (first | rw [u] | (simp only [i64_w, i32_w]; rw [u]) | skip)
  have H' := zK H
  clear H
  go_wp2
  go_meet
  case rel => exact ⟨_, (decide ((rd l a) > 65536)), zR, H', ⟨by have := D.out; first | omega | exact Nat.le_refl _⟩, zD⟩
 case rest =>
  clear O
  try clear A
  try clear J
  try clear p2
  try clear L
  try clear b0
  try clear p3
  try clear q3
  try clear p0
  try clear M
  try clear d0
  try clear B
  try clear u
  try clear E
  try clear y
  try clear z
  obtain ⟨kq, x, rfl, HA, a0, ⟨mc4, rfl⟩⟩ := hcut
  cases kq with
  | zero => exact absurd HA.out (by simp [impl_work.j1])
  | succ m0 =>
   have H := HA.out
   clear HA
   simp only [impl_work.j1] at H
   by_cases T : x = true
   · subst T
     rw [if_pos rfl] at H
     simp only [Option.some.injEq, Prod.mk.injEq] at H
     obtain ⟨rfl, rfl⟩ := H
     go_wp2
     go_ret2
     exact ⟨zR, zD⟩
   replace T := Bool.eq_false_iff.mpr T
   subst T
   rw [if_neg (show ¬ (false = true) by decide)] at H
   by_cases I : (wrap64 (q * (rd l a))) > 65536
   · rw [if_pos I] at H
     have f0 := z1 I
     clear I
     simp only [Option.some.injEq, Prod.mk.injEq] at H
     obtain ⟨rfl, rfl⟩ := H
     go_wp2
     go_ret2
     exact ⟨zR, zD⟩
   rw [if_neg I] at H
   have f0 := z2 I
   clear I
   have H' := zK H
   clear H
   go_wp2
   go_roundg m0
   case measure => have := D.out; have := a0.out; omega
   case rel => exact ⟨(wrap64 (q * (rd l a))), (wrap64 (a + 1)), zR, zR, H', ⟨by have := D.out; have := a0.out; omega⟩, zD⟩
end Go.Proofs.Ytmcboiffbcnalaa.PFnExactPlanOk
