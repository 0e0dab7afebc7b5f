-- Printed out of the translation by this session's own turned copy of a printer; Lean checks it.
import Derived.Test.YtmcboiffbcnalaaPFnExactLivesx0
namespace Go.Proofs.Ytmcboiffbcnalaa.PFnExactLives
open Go.RowKit Go.Proofs.YtmcboiffbcnalaaW.PrintWords Go.Proofs.YtmcboiffbcnalaaW.PrintLast Go.Proofs.YtmcboiffbcnalaaW.PrintMore
attribute [local go_sem] max2_int min2_int max_two min_two max_three min_three max_four min_four
set_option linter.unusedVariables false
set_option linter.unusedSimpArgs false
set_option maxHeartbeats 8000000
set_option maxRecDepth 100000
mutual
def impl_work.l0 : Nat → List Int → Int → List Int → Int → Int → Option (Int × Bool)
 | 0, _, _, _, _, _ => none
 | k + 1, u, y, q, z, l => if l < z then (if 0 ≤ l then (if l < (q.length : Int) then (if (rd q l) < 1 then (impl_work.j1 k u y (rd q l) q z l true) else (impl_work.j1 k u y (rd q l) q z l (decide ((rd q l) > 65536)))) else (none)) else (none)) else (some (y, decide ((u.length : Int) ≤ 12)))
def impl_work.j1 : Nat → List Int → Int → Int → List Int → Int → Int → Bool → Option (Int × Bool)
 | 0, _, _, _, _, _, _, _ => none
 | k + 1, y, l, q, z, A, B, u => if u = true then (some (0, false)) else (if (wrap64 (l * q)) > 65536 then (some (0, false)) else (impl_work.l0 k y (wrap64 (l * q)) z A (wrap64 (B + 1))))
end
def impl_work.f (k : Nat) (l : List Int) : Option (Int × Bool) := impl_work.l0 k l 1 l (l.length : Int) 0
theorem impl_work.calls (k) (A0) (c0) (q : List Int) (r1) (r2 : Bool) (w) (b0 : Kd.C (Kd.int .i64) w A0 q.length q) (d0 : q.length ≤ c0) (h : impl_work.f k q = some (r1, r2)) :
 Calls Try.prog 67 #[.slice A0 q.length c0] w fun e w' => e = .returned (.tuple #[.int .i64 r1, .bool r2]) ∧ Drawn0 w w' := by
 have o0 := zK b0
 have s0 := zK d0
 clear b0 d0
 have H : (impl_work.l0 k q 1 q (q.length : Int) 0) = some (r1, r2) := h
 clear h
 have H' := zK H
 clear H
 go_enter Try.func67, Try.ntmps67
 go_wp2
 go_loopg [4, 9] k (fun kq v4 v9 w' => ∃ (u : Int) (l : Int), v4 = .int .i64 u ∧ v9 = .int .i64 l ∧ Aside0 (impl_work.l0 kq q u q (q.length : Int) l = some (r1, r2)) ∧ Aside0 (kq ≤ k) ∧ Drawn0 w w')
 case atStart => exact ⟨(1), (0), zR, zR, H', ⟨Nat.le_refl _⟩, zD⟩
 clear H'
 obtain ⟨u, l, rfl, rfl, HA, J, ⟨m1, rfl⟩⟩ := hrel
 rcases gk with _ | k1
 · exact absurd HA.out (by simp [impl_work.l0])
 have H := HA.out
 clear HA
 simp only [impl_work.l0] at H
 by_cases E : l < (q.length : Int)
 rotate_left
 · rw [if_neg E] at H
   have O := z2 E
   clear E
   simp only [Option.some.injEq, Prod.mk.injEq] at H
   obtain ⟨rfl, rfl⟩ := H
   go_wp2
   go_ret2
   exact ⟨zR, zD⟩
 rw [if_pos E] at H
 have O := z1 E
 clear E
 by_cases T : 0 ≤ l
 rotate_left
 · rw [if_neg T] at H
   exact absurd H (by simp)
 rw [if_pos T] at H
 have f0 := z1 T
 clear T
 by_cases U : l < (q.length : Int)
 rotate_left
 · rw [if_neg U] at H
   exact absurd H (by simp)
 rw [if_pos U] at H
 have g0 := z1 U
 clear U
 have X := zK H
 clear H
 have A : 0 ≤ (l : Int) := z3
 have B : l < (q.length : Int) := z3
 obtain ⟨q0, i0, L⟩ := Kd.at_int o0.out l A B
 cases i0
 replace A := eq_true A
 replace B := eq_true B
 go_upto_region 5 with (fail)
 go_cut [18] (fun v18 wc => ∃ (kq : Nat) (z : Bool), v18 = .bool z ∧ Aside0 (impl_work.j1 kq q u (rd q l) q (q.length : Int) l z = some (r1, r2)) ∧ Aside0 (kq ≤ k1) ∧ Drawn0 w wc)
 case first =>
  have H := X.out
  clear X
  by_cases I : (rd q l) < 1
  · rw [if_pos I] at H
    have y := z1 I
    clear I
    (first | rw [y] | (simp only [i64_w, i32_w]; rw [y]) | skip)
    have H' := zK H
    clear H
    go_wp2
    go_meet
    case rel => exact ⟨_, (true), zR, H', ⟨by have := J.out; first | omega | exact Nat.le_refl _⟩, zD⟩
  rw [if_neg I] at H
  have y := z2 I
  clear I
  (first | rw [y] | (simp only [i64_w, i32_w]; rw [y]) | skip)
  have H' := zK H
  clear H
  go_wp2
  go_meet
  case rel => exact ⟨_, (decide ((rd q l) > 65536)), zR, H', ⟨by have := J.out; first | omega | exact Nat.le_refl _⟩, zD⟩
 case rest =>
  clear X
  try clear E
  try clear O
  try clear p2
  try clear T
  try clear f0
  try clear p3
  try clear q3
  try clear t0
  try clear U
  try clear g0
  try clear I
  try clear y
  try clear L
  try clear A
  try clear B
  obtain ⟨kq, z, rfl, HA, e0, ⟨mc4, rfl⟩⟩ := hcut
  cases kq with
  | zero => exact absurd HA.out (by simp [impl_work.j1])
  | succ p0 =>
   have H := HA.out
   clear HA
   simp only [impl_work.j1] at H
   by_cases c7 : z = true
   · subst c7
     rw [if_pos rfl] at H
     simp only [Option.some.injEq, Prod.mk.injEq] at H
     obtain ⟨rfl, rfl⟩ := H
     go_wp2
     go_ret2
     exact ⟨zR, zD⟩
   replace c7 := Bool.eq_false_iff.mpr c7
   subst c7
   rw [if_neg (show ¬ (false = true) by decide)] at H
   by_cases M : (wrap64 (u * (rd q l))) > 65536
   · rw [if_pos M] at H
     have j0 := z1 M
     clear M
     simp only [Option.some.injEq, Prod.mk.injEq] at H
     obtain ⟨rfl, rfl⟩ := H
     go_wp2
     go_ret2
     exact ⟨zR, zD⟩
   rw [if_neg M] at H
   have j0 := z2 M
   clear M
   have H' := zK H
   clear H
   go_wp2
   go_roundg p0
   case measure => have := J.out; have := e0.out; omega
   case rel => exact ⟨(wrap64 (u * (rd q l))), (wrap64 (l + 1)), zR, zR, H', ⟨by have := J.out; have := e0.out; omega⟩, zD⟩
end Go.Proofs.Ytmcboiffbcnalaa.PFnExactLives
