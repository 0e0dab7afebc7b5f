-- Printed out of the translation by this session's own turned copy of a printer; Lean checks it.
import Derived.Test.YtmcboiffbcnalaaPFnExactLivesx0
namespace Go.Proofs.Ytmcboiffbcnalaa.PFnExactLives
open Go.RowKit Go.Proofs.YtmcboiffbcnalaaW.PrintWords Go.Proofs.YtmcboiffbcnalaaW.PrintLast Go.Proofs.YtmcboiffbcnalaaW.PrintMore
attribute [local go_sem] max2_int min2_int max_two min_two max_three min_three max_four min_four
set_option linter.unusedVariables false
set_option linter.unusedSimpArgs false
set_option maxHeartbeats 8000000
set_option maxRecDepth 100000
def spec_l4Within.l0 : Nat → List Int → Int → Int → Option (Bool)
 | 0, _, _, _ => none
 | k + 1, q, u, l => if l < (q.length : Int) then (if 0 ≤ l then (if (rd q l) < 0 then (some false) else (if (rd q l) ≥ u then (some false) else (spec_l4Within.l0 k q u (wrap64 (l + 1))))) else (none)) else (some true)
def spec_l4Within.f (k : Nat) (l : List Int) (q : Int) : Option (Bool) := spec_l4Within.l0 k l q 0
theorem spec_l4Within.calls (k) (A0) (c0) (y : List Int) (a1) (r : Bool) (w) (d0 : Kd.C (Kd.int .i64) w A0 y.length y) (e0 : y.length ≤ c0) (h : spec_l4Within.f k y a1 = some r) :
 Calls Try.prog 38 #[.slice A0 y.length c0, .int .i64 a1] w fun e w' => e = .returned (.bool r) ∧ Drawn0 w w' := by
 have L := zK d0
 have p0 := zK e0
 clear d0 e0
 have H : (spec_l4Within.l0 k y a1 0) = some r := h
 clear h
 have H' := zK H
 clear H
 go_enter Try.func38, Try.ntmps38
 go_wp2
 go_loopg [5] k (fun kq v5 w' => ∃ (l : Int), v5 = .int .i64 l ∧ Aside0 (spec_l4Within.l0 kq y a1 l = some r) ∧ Aside0 (kq ≤ k) ∧ Drawn0 w w')
 case atStart => exact ⟨(0), zR, H', ⟨Nat.le_refl _⟩, zD⟩
 clear H'
 try clear p2
 obtain ⟨l, rfl, HA, f0, ⟨m1, rfl⟩⟩ := hrel
 rcases gk with _ | k1
 · exact absurd HA.out (by simp [spec_l4Within.l0])
 have H := HA.out
 clear HA
 simp only [spec_l4Within.l0] at H
 by_cases O : l < (y.length : Int)
 rotate_left
 · rw [if_neg O] at H
   have g0 := z2 O
   clear O
   obtain rfl := z5 H
   go_wp2
   go_ret
   exact ⟨zR, zD⟩
 rw [if_pos O] at H
 have g0 := z1 O
 clear O
 by_cases c4 : 0 ≤ l
 rotate_left
 · rw [if_neg c4] at H
   exact absurd H (by simp)
 rw [if_pos c4] at H
 have o0 := z1 c4
 clear c4
 by_cases T : (rd y l) < 0
 · rw [if_pos T] at H
   have i0 := z1 T
   clear T
   obtain rfl := z5 H
   have q : 0 ≤ (l : Int) := z3
   have u : l < (y.length : Int) := z3
   obtain ⟨B, E, I⟩ := Kd.at_int L.out l q u
   cases E
   replace q := eq_true q
   replace u := eq_true u
   go_wp2
   go_ret
   exact ⟨zR, zD⟩
 rw [if_neg T] at H
 have i0 := z2 T
 clear T
 by_cases U : (rd y l) ≥ a1
 · rw [if_pos U] at H
   have j0 := z1 U
   clear U
   obtain rfl := z5 H
   have q : 0 ≤ (l : Int) := z3
   have u : l < (y.length : Int) := z3
   obtain ⟨B, E, I⟩ := Kd.at_int L.out l q u
   cases E
   replace q := eq_true q
   replace u := eq_true u
   have z : 0 ≤ (l : Int) := z3
   have A : l < (y.length : Int) := z3
   obtain ⟨J, M, X⟩ := Kd.at_int L.out l z A
   obtain rfl : B = J := (by injection M)
   replace z := eq_true z
   replace A := eq_true A
   go_wp2
   go_ret
   exact ⟨zR, zD⟩
 rw [if_neg U] at H
 have j0 := z2 U
 clear U
 have H' := zK H
 clear H
 have q : 0 ≤ (l : Int) := z3
 have u : l < (y.length : Int) := z3
 obtain ⟨B, E, I⟩ := Kd.at_int L.out l q u
 cases E
 replace q := eq_true q
 replace u := eq_true u
 have z : 0 ≤ (l : Int) := z3
 have A : l < (y.length : Int) := z3
 obtain ⟨J, M, X⟩ := Kd.at_int L.out l z A
 obtain rfl : B = J := (by injection M)
 replace z := eq_true z
 replace A := eq_true A
 go_wp2
 go_roundg k1
 case measure => have := f0.out; omega
 case rel => exact ⟨(wrap64 (l + 1)), zR, H', ⟨by have := f0.out; omega⟩, zD⟩
def spec_l7Has.l0 : Nat → List Int → Int → Int → Option (Bool)
 | 0, _, _, _ => none
 | k + 1, q, u, l => if l < (q.length : Int) then (if 0 ≤ l then (if (rd q l) = u then (some true) else (spec_l7Has.l0 k q u (wrap64 (l + 1)))) else (none)) else (some false)
def spec_l7Has.f (k : Nat) (l : List Int) (q : Int) : Option (Bool) := spec_l7Has.l0 k l q 0
theorem spec_l7Has.calls (k) (A0) (c0) (y : List Int) (I) (r : Bool) (w) (M : Kd.C (Kd.int .i64) w A0 y.length y) (O : y.length ≤ c0) (h : spec_l7Has.f k y I = some r) :
 Calls Try.prog 39 #[.slice A0 y.length c0, .int .i64 I] w fun e w' => e = .returned (.bool r) ∧ Drawn0 w w' := by
 have T := zK M
 have g0 := zK O
 clear M O
 have H : (spec_l7Has.l0 k y I 0) = some r := h
 clear h
 have H' := zK H
 clear H
 go_enter Try.func39, Try.ntmps39
 go_wp2
 go_loopg [5] k (fun kq v5 w' => ∃ (l : Int), v5 = .int .i64 l ∧ Aside0 (spec_l7Has.l0 kq y I l = some r) ∧ Aside0 (kq ≤ k) ∧ Drawn0 w w')
 case atStart => exact ⟨(0), zR, H', ⟨Nat.le_refl _⟩, zD⟩
 clear H'
 try clear p2
 obtain ⟨l, rfl, HA, U, ⟨m1, rfl⟩⟩ := hrel
 rcases gk with _ | k1
 · exact absurd HA.out (by simp [spec_l7Has.l0])
 have H := HA.out
 clear HA
 simp only [spec_l7Has.l0] at H
 by_cases B : l < (y.length : Int)
 rotate_left
 · rw [if_neg B] at H
   have X := z2 B
   clear B
   obtain rfl := z5 H
   go_wp2
   go_ret
   exact ⟨zR, zD⟩
 rw [if_pos B] at H
 have X := z1 B
 clear B
 by_cases J : 0 ≤ l
 rotate_left
 · rw [if_neg J] at H
   exact absurd H (by simp)
 rw [if_pos J] at H
 have f0 := z1 J
 clear J
 by_cases z : (rd y l) = I
 · rw [if_pos z] at H
   have a0 := beq_iff_eq.mpr z
   have b0 := bne_eq_false_iff_eq.mpr z
   clear z
   obtain rfl := z5 H
   have q : 0 ≤ (l : Int) := z3
   have u : l < (y.length : Int) := z3
   obtain ⟨L, A, E⟩ := Kd.at_int T.out l q u
   cases A
   replace q := eq_true q
   replace u := eq_true u
   go_wp2
   go_ret
   exact ⟨zR, zD⟩
 rw [if_neg z] at H
 have a0 := beq_eq_false_iff_ne.mpr z
 have b0 := bne_iff_ne.mpr z
 have H' := zK H
 clear H
 have q : 0 ≤ (l : Int) := z3
 have u : l < (y.length : Int) := z3
 obtain ⟨L, A, E⟩ := Kd.at_int T.out l q u
 cases A
 replace q := eq_true q
 replace u := eq_true u
 go_wp2
 go_roundg k1
 case measure => have := U.out; omega
 case rel => exact ⟨(wrap64 (l + 1)), zR, H', ⟨by have := U.out; omega⟩, zD⟩
def spec_l5RowOk.l0 : Nat → List Int → Int → Option (Bool)
 | 0, _, _ => none
 | k + 1, l, q => if q < (l.length : Int) then (if 0 ≤ q then (if (rd l q) < 0 then (some false) else (if (rd l q) ≥ 2147483647 then (some false) else (spec_l5RowOk.l0 k l (wrap64 (q + 1))))) else (none)) else (if (l.length : Int) > 0 then (some (decide ((l.length : Int) ≤ 4096))) else (some false))
def spec_l5RowOk.f (k : Nat) (l : List Int) : Option (Bool) := spec_l5RowOk.l0 k l 0
theorem spec_l5RowOk.calls (k) (A0) (c0) (y : List Int) (r : Bool) (w) (d0 : Kd.C (Kd.int .i64) w A0 y.length y) (e0 : y.length ≤ c0) (h : spec_l5RowOk.f k y = some r) :
 Calls Try.prog 40 #[.slice A0 y.length c0] w fun e w' => e = .returned (.bool r) ∧ Drawn0 w w' := by
 have L := zK d0
 have s0 := zK e0
 clear d0 e0
 have H : (spec_l5RowOk.l0 k y 0) = some r := h
 clear h
 have H' := zK H
 clear H
 go_enter Try.func40, Try.ntmps40
 go_wp2
 go_loopg [3] k (fun kq v3 w' => ∃ (l : Int), v3 = .int .i64 l ∧ Aside0 (spec_l5RowOk.l0 kq y l = some r) ∧ Aside0 (kq ≤ k) ∧ Drawn0 w w')
 case atStart => exact ⟨(0), zR, H', ⟨Nat.le_refl _⟩, zD⟩
 clear H'
 obtain ⟨l, rfl, HA, f0, ⟨m1, rfl⟩⟩ := hrel
 rcases gk with _ | k1
 · exact absurd HA.out (by simp [spec_l5RowOk.l0])
 have H := HA.out
 clear HA
 simp only [spec_l5RowOk.l0] at H
 by_cases O : l < (y.length : Int)
 rotate_left
 · rw [if_neg O] at H
   have g0 := z2 O
   clear O
   by_cases T : (y.length : Int) > 0
   · rw [if_pos T] at H
     have i0 := z1 T
     have j0 : decide (0 < y.length) = true := z1 (by omega)
     clear T
     obtain rfl := z5 H
     go_wp2
     go_ret
     exact ⟨zR, zD⟩
   rw [if_neg T] at H
   have i0 := z2 T
   have j0 : decide (0 < y.length) = false := z2 (by omega)
   clear T
   obtain rfl := z5 H
   go_wp2
   go_ret
   exact ⟨zR, zD⟩
 rw [if_pos O] at H
 have g0 := z1 O
 clear O
 by_cases c3 : 0 ≤ l
 rotate_left
 · rw [if_neg c3] at H
   exact absurd H (by simp)
 rw [if_pos c3] at H
 have q0 := z1 c3
 clear c3
 by_cases U : (rd y l) < 0
 · rw [if_pos U] at H
   have m0 := z1 U
   clear U
   obtain rfl := z5 H
   have q : 0 ≤ (l : Int) := z3
   have u : l < (y.length : Int) := z3
   obtain ⟨B, E, I⟩ := Kd.at_int L.out l q u
   cases E
   replace q := eq_true q
   replace u := eq_true u
   go_wp2
   go_ret
   exact ⟨zR, zD⟩
 rw [if_neg U] at H
 have m0 := z2 U
 clear U
 by_cases X : (rd y l) ≥ 2147483647
 · rw [if_pos X] at H
   have n0 := z1 X
   clear X
   obtain rfl := z5 H
   have q : 0 ≤ (l : Int) := z3
   have u : l < (y.length : Int) := z3
   obtain ⟨B, E, I⟩ := Kd.at_int L.out l q u
   cases E
   replace q := eq_true q
   replace u := eq_true u
   have z : 0 ≤ (l : Int) := z3
   have A : l < (y.length : Int) := z3
   obtain ⟨J, M, a0⟩ := Kd.at_int L.out l z A
   obtain rfl : B = J := (by injection M)
   replace z := eq_true z
   replace A := eq_true A
   go_wp2
   go_ret
   exact ⟨zR, zD⟩
 rw [if_neg X] at H
 have n0 := z2 X
 clear X
 have H' := zK H
 clear H
 have q : 0 ≤ (l : Int) := z3
 have u : l < (y.length : Int) := z3
 obtain ⟨B, E, I⟩ := Kd.at_int L.out l q u
 cases E
 replace q := eq_true q
 replace u := eq_true u
 have z : 0 ≤ (l : Int) := z3
 have A : l < (y.length : Int) := z3
 obtain ⟨J, M, a0⟩ := Kd.at_int L.out l z A
 obtain rfl : B = J := (by injection M)
 replace z := eq_true z
 replace A := eq_true A
 go_wp2
 go_roundg k1
 case measure => have := f0.out; omega
 case rel => exact ⟨(wrap64 (l + 1)), zR, H', ⟨by have := f0.out; omega⟩, zD⟩
mutual
def spec_l11Product.l0 : Nat → List Int → Int → Int → Option (Int)
 | 0, _, _, _ => none
 | k + 1, q, u, l => if l < (q.length : Int) then (if 0 ≤ l then (if (rd q l) < 1 then (spec_l11Product.j1 k q u l true) else (if (rd q l) > 65536 then (spec_l11Product.j1 k q u l true) else (spec_l11Product.j1 k q u l (decide ((wrap64 (u * (rd q l))) > 65536))))) else (none)) else (some u)
def spec_l11Product.j1 : Nat → List Int → Int → Int → Bool → Option (Int)
 | 0, _, _, _, _ => none
 | k + 1, q, y, l, u => if u = true then (some 0) else (if 0 ≤ l then (if l < (q.length : Int) then (spec_l11Product.l0 k q (wrap64 (y * (rd q l))) (wrap64 (l + 1))) else (none)) else (none))
end
def spec_l11Product.f (k : Nat) (l : List Int) : Option (Int) := spec_l11Product.l0 k l 1 0
theorem spec_l11Product.calls (k) (A0) (c0) (y : List Int) (r) (w) (C0 : Kd.C (Kd.int .i64) w A0 y.length y) (D0 : y.length ≤ c0) (h : spec_l11Product.f k y = some r) :
 Calls Try.prog 42 #[.slice A0 y.length c0] w fun e w' => e = .returned (.int .i64 r) ∧ Drawn0 w w' := by
 have L := zK C0
 have S0 := zK D0
 clear C0 D0
 have H : (spec_l11Product.l0 k y 1 0) = some r := h
 clear h
 have H' := zK H
 clear H
 go_enter Try.func42, Try.ntmps42
 go_wp2
 go_loopg [3, 4] k (fun kq v3 v4 w' => ∃ (E : Int) (l : Int), v3 = .int .i64 E ∧ v4 = .int .i64 l ∧ Aside0 (spec_l11Product.l0 kq y E l = some r) ∧ Aside0 (kq ≤ k) ∧ Drawn0 w w')
 case atStart => exact ⟨(1), (0), zR, zR, H', ⟨Nat.le_refl _⟩, zD⟩
 clear H'
 obtain ⟨E, l, rfl, rfl, HA, a0, ⟨m1, rfl⟩⟩ := hrel
 rcases gk with _ | k1
 · exact absurd HA.out (by simp [spec_l11Product.l0])
 have H := HA.out
 clear HA
 simp only [spec_l11Product.l0] at H
 by_cases c2 : l < (y.length : Int)
 rotate_left
 · rw [if_neg c2] at H
   have n0 := z2 c2
   clear c2
   obtain rfl := z5 H
   go_wp2
   go_ret
   exact ⟨zR, zD⟩
 rw [if_pos c2] at H
 have n0 := z1 c2
 clear c2
 have o0 := zK H
 clear H
 go_upto_region 5 with (fail)
 go_cut [31] (fun v31 wc => ∃ (kq : Nat) (J : Bool), v31 = .bool J ∧ Aside0 (spec_l11Product.j1 kq y E l J = some r) ∧ Aside0 (kq ≤ k1) ∧ Drawn0 w wc)
 case first =>
  have H := o0.out
  clear o0
  by_cases c4 : 0 ≤ l
  rotate_left
  · rw [if_neg c4] at H
    exact absurd H (by simp)
  rw [if_pos c4] at H
  have d0 := z1 c4
  clear c4
  (first | rw [d0] | (simp only [i64_w, i32_w]; rw [d0]) | skip)
  by_cases c5 : (rd y l) < 1
  · rw [if_pos c5] at H
    have q0 := z1 c5
    clear c5
    have H' := zK H
    clear H
    have q : 0 ≤ (l : Int) := z3
    have u : l < (y.length : Int) := z3
    obtain ⟨B, M, I⟩ := Kd.at_int L.out l q u
    cases M
    replace q := eq_true q
    replace u := eq_true u
    go_wp2
    go_meet
    case rel => exact ⟨_, (true), zR, H', ⟨by have := a0.out; first | omega | exact Nat.le_refl _⟩, zD⟩
  rw [if_neg c5] at H
  have q0 := z2 c5
  clear c5
  by_cases c6 : (rd y l) > 65536
  · rw [if_pos c6] at H
    have s0 := z1 c6
    clear c6
    have H' := zK H
    clear H
    have q : 0 ≤ (l : Int) := z3
    have u : l < (y.length : Int) := z3
    obtain ⟨B, M, I⟩ := Kd.at_int L.out l q u
    cases M
    replace q := eq_true q
    replace u := eq_true u
    have z : 0 ≤ (l : Int) := z3
    have A : l < (y.length : Int) := z3
    obtain ⟨T, g0, O⟩ := Kd.at_int L.out l z A
    obtain rfl : B = T := (by injection g0)
    replace z := eq_true z
    replace A := eq_true A
    go_wp2
    go_meet
    case rel => exact ⟨_, (true), zR, H', ⟨by have := a0.out; first | omega | exact Nat.le_refl _⟩, zD⟩
  rw [if_neg c6] at H
  have s0 := z2 c6
  clear c6
  have H' := zK H
  clear H
  have q : 0 ≤ (l : Int) := z3
  have u : l < (y.length : Int) := z3
  obtain ⟨B, M, I⟩ := Kd.at_int L.out l q u
  cases M
  replace q := eq_true q
  replace u := eq_true u
  have z : 0 ≤ (l : Int) := z3
  have A : l < (y.length : Int) := z3
  obtain ⟨T, g0, O⟩ := Kd.at_int L.out l z A
  obtain rfl : B = T := (by injection g0)
  replace z := eq_true z
  replace A := eq_true A
  have U : 0 ≤ (l : Int) := z3
  have X : l < (y.length : Int) := z3
  obtain ⟨t0, F0, m0⟩ := Kd.at_int L.out l U X
  obtain rfl : B = t0 := (by injection F0)
  replace U := eq_true U
  replace X := eq_true X
  go_wp2
  go_meet
  case rel => exact ⟨_, (decide ((wrap64 (E * (rd y l))) > 65536)), zR, H', ⟨by have := a0.out; first | omega | exact Nat.le_refl _⟩, zD⟩
 case rest =>
  clear o0
  try clear p1
  try clear q1
  try clear T0
  try clear c2
  try clear n0
  try clear p2
  try clear c4
  try clear d0
  try clear c5
  try clear q0
  try clear c6
  try clear s0
  try clear p6
  try clear I
  try clear O
  try clear m0
  try clear q
  try clear z
  try clear U
  try clear u
  try clear A
  try clear X
  obtain ⟨kq, J, rfl, HA, E0, ⟨mc2, rfl⟩⟩ := hcut
  cases kq with
  | zero => exact absurd HA.out (by simp [spec_l11Product.j1])
  | succ M0 =>
   have H := HA.out
   clear HA
   simp only [spec_l11Product.j1] at H
   by_cases c7 : J = true
   · subst c7
     rw [if_pos rfl] at H
     obtain rfl := z5 H
     go_wp2
     go_ret
     exact ⟨zR, zD⟩
   replace c7 := Bool.eq_false_iff.mpr c7
   subst c7
   rw [if_neg (show ¬ (false = true) by decide)] at H
   by_cases c8 : 0 ≤ l
   rotate_left
   · rw [if_neg c8] at H
     exact absurd H (by simp)
   rw [if_pos c8] at H
   have O0 := z1 c8
   clear c8
   by_cases c9 : l < (y.length : Int)
   rotate_left
   · rw [if_neg c9] at H
     exact absurd H (by simp)
   rw [if_pos c9] at H
   have R0 := z1 c9
   clear c9
   have H' := zK H
   clear H
   have i0 : 0 ≤ (l : Int) := z3
   have j0 : l < (y.length : Int) := z3
   obtain ⟨N0, G0, I0⟩ := Kd.at_int L.out l i0 j0
   cases G0
   replace i0 := eq_true i0
   replace j0 := eq_true j0
   go_wp2
   go_roundg M0
   case measure => have := a0.out; have := E0.out; omega
   case rel => exact ⟨(wrap64 (E * (rd y l))), (wrap64 (l + 1)), zR, zR, H', ⟨by have := a0.out; have := E0.out; omega⟩, zD⟩
end Go.Proofs.Ytmcboiffbcnalaa.PFnExactLives
