-- Printed out of the translation by this session's own turned copy of a printer; Lean checks it.
import Derived.Test.YtmcboiffbcnalaaPFnExactPlanOkx0
namespace Go.Proofs.Ytmcboiffbcnalaa.PFnExactPlanOk
open Go.RowKit Go.Proofs.YtmcboiffbcnalaaW.PrintWords Go.Proofs.YtmcboiffbcnalaaW.PrintLast Go.Proofs.YtmcboiffbcnalaaW.PrintMore
attribute [local go_sem] max2_int min2_int max_two min_two max_three min_three max_four min_four
set_option linter.unusedVariables false
set_option linter.unusedSimpArgs false
set_option maxHeartbeats 8000000
set_option maxRecDepth 100000
def spec_l4Within.l0 : Nat → List Int → Int → Int → Option (Bool)
 | 0, _, _, _ => none
 | k + 1, l, q, a => if a < (l.length : Int) then (if 0 ≤ a then (if (rd l a) < 0 then (some false) else (if (rd l a) ≥ q then (some false) else (spec_l4Within.l0 k l q (wrap64 (a + 1))))) else (none)) else (some true)
def spec_l4Within.f (k : Nat) (a : List Int) (l : Int) : Option (Bool) := spec_l4Within.l0 k a l 0
theorem spec_l4Within.calls (k) (A0) (c0) (u : List Int) (T) (r : Bool) (w) (X : Kd.C (Kd.int .i64) w A0 u.length u) (a0 : u.length ≤ c0) (h : spec_l4Within.f k u T = some r) :
 Calls Try.prog 38 #[.slice A0 u.length c0, .int .i64 T] w fun e w' => e = .returned (.bool r) ∧ Drawn0 w w' := by
 have E := zK X
 have m0 := zK a0
 clear X a0
 have H : (spec_l4Within.l0 k u T 0) = some r := h
 clear h
 have H' := zK H
 clear H
 go_enter Try.func38, Try.ntmps38
 go_wp2
 go_loopg [5] k (fun kq v5 w' => ∃ (a : Int), v5 = .int .i64 a ∧ Aside0 (spec_l4Within.l0 kq u T a = some r) ∧ Aside0 (kq ≤ k) ∧ Drawn0 w w')
 case atStart => exact ⟨(0), zR, H', ⟨Nat.le_refl _⟩, zD⟩
 clear H'
 try clear p2
 obtain ⟨a, rfl, HA, b0, ⟨m1, rfl⟩⟩ := hrel
 rcases gk with _ | k1
 · exact absurd HA.out (by simp [spec_l4Within.l0])
 have H := HA.out
 clear HA
 simp only [spec_l4Within.l0] at H
 by_cases J : a < (u.length : Int)
 rotate_left
 · rw [if_neg J] at H
   have d0 := z2 J
   clear J
   obtain rfl := z5 H
   go_wp2
   go_ret
   exact ⟨zR, zD⟩
 rw [if_pos J] at H
 have d0 := z1 J
 clear J
 by_cases U : 0 ≤ a
 rotate_left
 · rw [if_neg U] at H
   exact absurd H (by simp)
 rw [if_pos U] at H
 have j0 := z1 U
 clear U
 by_cases L : (rd u a) < 0
 · rw [if_pos L] at H
   have e0 := z1 L
   clear L
   obtain rfl := z5 H
   have l : 0 ≤ (a : Int) := z3
   have q : a < (u.length : Int) := z3
   obtain ⟨z, A, B⟩ := Kd.at_int E.out a l q
   cases A
   replace l := eq_true l
   replace q := eq_true q
   go_wp2
   go_ret
   exact ⟨zR, zD⟩
 rw [if_neg L] at H
 have e0 := z2 L
 clear L
 by_cases M : (rd u a) ≥ T
 · rw [if_pos M] at H
   have f0 := z1 M
   clear M
   obtain rfl := z5 H
   have l : 0 ≤ (a : Int) := z3
   have q : a < (u.length : Int) := z3
   obtain ⟨z, A, B⟩ := Kd.at_int E.out a l q
   cases A
   replace l := eq_true l
   replace q := eq_true q
   have x : 0 ≤ (a : Int) := z3
   have y : a < (u.length : Int) := z3
   obtain ⟨D, I, O⟩ := Kd.at_int E.out a x y
   obtain rfl : z = D := (by injection I)
   replace x := eq_true x
   replace y := eq_true y
   go_wp2
   go_ret
   exact ⟨zR, zD⟩
 rw [if_neg M] at H
 have f0 := z2 M
 clear M
 have H' := zK H
 clear H
 have l : 0 ≤ (a : Int) := z3
 have q : a < (u.length : Int) := z3
 obtain ⟨z, A, B⟩ := Kd.at_int E.out a l q
 cases A
 replace l := eq_true l
 replace q := eq_true q
 have x : 0 ≤ (a : Int) := z3
 have y : a < (u.length : Int) := z3
 obtain ⟨D, I, O⟩ := Kd.at_int E.out a x y
 obtain rfl : z = D := (by injection I)
 replace x := eq_true x
 replace y := eq_true y
 go_wp2
 go_roundg k1
 case measure => have := b0.out; omega
 case rel => exact ⟨(wrap64 (a + 1)), zR, H', ⟨by have := b0.out; omega⟩, zD⟩
def spec_l7Has.l0 : Nat → List Int → Int → Int → Option (Bool)
 | 0, _, _, _ => none
 | k + 1, l, q, a => if a < (l.length : Int) then (if 0 ≤ a then (if (rd l a) = q then (some true) else (spec_l7Has.l0 k l q (wrap64 (a + 1)))) else (none)) else (some false)
def spec_l7Has.f (k : Nat) (a : List Int) (l : Int) : Option (Bool) := spec_l7Has.l0 k a l 0
theorem spec_l7Has.calls (k) (X) (c0) (u : List Int) (B) (r : Bool) (w) (I : Kd.C (Kd.int .i64) w X u.length u) (J : u.length ≤ c0) (h : spec_l7Has.f k u B = some r) :
 Calls Try.prog 39 #[.slice X u.length c0, .int .i64 B] w fun e w' => e = .returned (.bool r) ∧ Drawn0 w w' := by
 have L := zK I
 have d0 := zK J
 clear I J
 have H : (spec_l7Has.l0 k u B 0) = some r := h
 clear h
 have H' := zK H
 clear H
 go_enter Try.func39, Try.ntmps39
 go_wp2
 go_loopg [5] k (fun kq v5 w' => ∃ (a : Int), v5 = .int .i64 a ∧ Aside0 (spec_l7Has.l0 kq u B a = some r) ∧ Aside0 (kq ≤ k) ∧ Drawn0 w w')
 case atStart => exact ⟨(0), zR, H', ⟨Nat.le_refl _⟩, zD⟩
 clear H'
 try clear p2
 obtain ⟨a, rfl, HA, M, ⟨m1, rfl⟩⟩ := hrel
 rcases gk with _ | k1
 · exact absurd HA.out (by simp [spec_l7Has.l0])
 have H := HA.out
 clear HA
 simp only [spec_l7Has.l0] at H
 by_cases z : a < (u.length : Int)
 rotate_left
 · rw [if_neg z] at H
   have O := z2 z
   clear z
   obtain rfl := z5 H
   go_wp2
   go_ret
   exact ⟨zR, zD⟩
 rw [if_pos z] at H
 have O := z1 z
 clear z
 by_cases D : 0 ≤ a
 rotate_left
 · rw [if_neg D] at H
   exact absurd H (by simp)
 rw [if_pos D] at H
 have b0 := z1 D
 clear D
 by_cases x : (rd u a) = B
 · rw [if_pos x] at H
   have T := beq_iff_eq.mpr x
   have U := bne_eq_false_iff_eq.mpr x
   clear x
   obtain rfl := z5 H
   have l : 0 ≤ (a : Int) := z3
   have q : a < (u.length : Int) := z3
   obtain ⟨E, y, A⟩ := Kd.at_int L.out a l q
   cases y
   replace l := eq_true l
   replace q := eq_true q
   go_wp2
   go_ret
   exact ⟨zR, zD⟩
 rw [if_neg x] at H
 have T := beq_eq_false_iff_ne.mpr x
 have U := bne_iff_ne.mpr x
 have H' := zK H
 clear H
 have l : 0 ≤ (a : Int) := z3
 have q : a < (u.length : Int) := z3
 obtain ⟨E, y, A⟩ := Kd.at_int L.out a l q
 cases y
 replace l := eq_true l
 replace q := eq_true q
 go_wp2
 go_roundg k1
 case measure => have := M.out; omega
 case rel => exact ⟨(wrap64 (a + 1)), zR, H', ⟨by have := M.out; omega⟩, zD⟩
def spec_l5RowOk.l0 : Nat → List Int → Int → Option (Bool)
 | 0, _, _ => none
 | k + 1, a, l => if l < (a.length : Int) then (if 0 ≤ l then (if (rd a l) < 0 then (some false) else (if (rd a l) ≥ 2147483647 then (some false) else (spec_l5RowOk.l0 k a (wrap64 (l + 1))))) else (none)) else (if (a.length : Int) > 0 then (some (decide ((a.length : Int) ≤ 4096))) else (some false))
def spec_l5RowOk.f (k : Nat) (a : List Int) : Option (Bool) := spec_l5RowOk.l0 k a 0
theorem spec_l5RowOk.calls (k) (A0) (c0) (u : List Int) (r : Bool) (w) (X : Kd.C (Kd.int .i64) w A0 u.length u) (a0 : u.length ≤ c0) (h : spec_l5RowOk.f k u = some r) :
 Calls Try.prog 40 #[.slice A0 u.length c0] w fun e w' => e = .returned (.bool r) ∧ Drawn0 w w' := by
 have E := zK X
 have o0 := zK a0
 clear X a0
 have H : (spec_l5RowOk.l0 k u 0) = some r := h
 clear h
 have H' := zK H
 clear H
 go_enter Try.func40, Try.ntmps40
 go_wp2
 go_loopg [3] k (fun kq v3 w' => ∃ (a : Int), v3 = .int .i64 a ∧ Aside0 (spec_l5RowOk.l0 kq u a = some r) ∧ Aside0 (kq ≤ k) ∧ Drawn0 w w')
 case atStart => exact ⟨(0), zR, H', ⟨Nat.le_refl _⟩, zD⟩
 clear H'
 obtain ⟨a, rfl, HA, b0, ⟨m1, rfl⟩⟩ := hrel
 rcases gk with _ | k1
 · exact absurd HA.out (by simp [spec_l5RowOk.l0])
 have H := HA.out
 clear HA
 simp only [spec_l5RowOk.l0] at H
 by_cases J : a < (u.length : Int)
 rotate_left
 · rw [if_neg J] at H
   have d0 := z2 J
   clear J
   by_cases L : (u.length : Int) > 0
   · rw [if_pos L] at H
     have e0 := z1 L
     have f0 : decide (0 < u.length) = true := z1 (by omega)
     clear L
     obtain rfl := z5 H
     go_wp2
     go_ret
     exact ⟨zR, zD⟩
   rw [if_neg L] at H
   have e0 := z2 L
   have f0 : decide (0 < u.length) = false := z2 (by omega)
   clear L
   obtain rfl := z5 H
   go_wp2
   go_ret
   exact ⟨zR, zD⟩
 rw [if_pos J] at H
 have d0 := z1 J
 clear J
 by_cases U : 0 ≤ a
 rotate_left
 · rw [if_neg U] at H
   exact absurd H (by simp)
 rw [if_pos U] at H
 have n0 := z1 U
 clear U
 by_cases M : (rd u a) < 0
 · rw [if_pos M] at H
   have g0 := z1 M
   clear M
   obtain rfl := z5 H
   have l : 0 ≤ (a : Int) := z3
   have q : a < (u.length : Int) := z3
   obtain ⟨z, A, B⟩ := Kd.at_int E.out a l q
   cases A
   replace l := eq_true l
   replace q := eq_true q
   go_wp2
   go_ret
   exact ⟨zR, zD⟩
 rw [if_neg M] at H
 have g0 := z2 M
 clear M
 by_cases O : (rd u a) ≥ 2147483647
 · rw [if_pos O] at H
   have i0 := z1 O
   clear O
   obtain rfl := z5 H
   have l : 0 ≤ (a : Int) := z3
   have q : a < (u.length : Int) := z3
   obtain ⟨z, A, B⟩ := Kd.at_int E.out a l q
   cases A
   replace l := eq_true l
   replace q := eq_true q
   have x : 0 ≤ (a : Int) := z3
   have y : a < (u.length : Int) := z3
   obtain ⟨D, I, T⟩ := Kd.at_int E.out a x y
   obtain rfl : z = D := (by injection I)
   replace x := eq_true x
   replace y := eq_true y
   go_wp2
   go_ret
   exact ⟨zR, zD⟩
 rw [if_neg O] at H
 have i0 := z2 O
 clear O
 have H' := zK H
 clear H
 have l : 0 ≤ (a : Int) := z3
 have q : a < (u.length : Int) := z3
 obtain ⟨z, A, B⟩ := Kd.at_int E.out a l q
 cases A
 replace l := eq_true l
 replace q := eq_true q
 have x : 0 ≤ (a : Int) := z3
 have y : a < (u.length : Int) := z3
 obtain ⟨D, I, T⟩ := Kd.at_int E.out a x y
 obtain rfl : z = D := (by injection I)
 replace x := eq_true x
 replace y := eq_true y
 go_wp2
 go_roundg k1
 case measure => have := b0.out; omega
 case rel => exact ⟨(wrap64 (a + 1)), zR, H', ⟨by have := b0.out; omega⟩, zD⟩
mutual
def spec_l11Product.l0 : Nat → List Int → Int → Int → Option (Int)
 | 0, _, _, _ => none
 | k + 1, l, q, a => if a < (l.length : Int) then (if 0 ≤ a then (if (rd l a) < 1 then (spec_l11Product.j1 k l q a true) else (if (rd l a) > 65536 then (spec_l11Product.j1 k l q a true) else (spec_l11Product.j1 k l q a (decide ((wrap64 (q * (rd l a))) > 65536))))) else (none)) else (some q)
def spec_l11Product.j1 : Nat → List Int → Int → Int → Bool → Option (Int)
 | 0, _, _, _, _ => none
 | k + 1, l, u, a, q => if q = true then (some 0) else (if 0 ≤ a then (if a < (l.length : Int) then (spec_l11Product.l0 k l (wrap64 (u * (rd l a))) (wrap64 (a + 1))) else (none)) else (none))
end
def spec_l11Product.f (k : Nat) (a : List Int) : Option (Int) := spec_l11Product.l0 k a 1 0
theorem spec_l11Product.calls (k) (A0) (c0) (u : List Int) (r) (w) (x0 : Kd.C (Kd.int .i64) w A0 u.length u) (y0 : u.length ≤ c0) (h : spec_l11Product.f k u = some r) :
 Calls Try.prog 42 #[.slice A0 u.length c0] w fun e w' => e = .returned (.int .i64 r) ∧ Drawn0 w w' := by
 have E := zK x0
 have N0 := zK y0
 clear x0 y0
 have H : (spec_l11Product.l0 k u 1 0) = some r := h
 clear h
 have H' := zK H
 clear H
 go_enter Try.func42, Try.ntmps42
 go_wp2
 go_loopg [3, 4] k (fun kq v3 v4 w' => ∃ (A : Int) (a : Int), v3 = .int .i64 A ∧ v4 = .int .i64 a ∧ Aside0 (spec_l11Product.l0 kq u A a = some r) ∧ Aside0 (kq ≤ k) ∧ Drawn0 w w')
 case atStart => exact ⟨(1), (0), zR, zR, H', ⟨Nat.le_refl _⟩, zD⟩
 clear H'
 obtain ⟨A, a, rfl, rfl, HA, T, ⟨m1, rfl⟩⟩ := hrel
 rcases gk with _ | k1
 · exact absurd HA.out (by simp [spec_l11Product.l0])
 have H := HA.out
 clear HA
 simp only [spec_l11Product.l0] at H
 by_cases U : a < (u.length : Int)
 rotate_left
 · rw [if_neg U] at H
   have i0 := z2 U
   clear U
   obtain rfl := z5 H
   go_wp2
   go_ret
   exact ⟨zR, zD⟩
 rw [if_pos U] at H
 have i0 := z1 U
 clear U
 have j0 := zK H
 clear H
 go_upto_region 5 with (fail)
 go_cut [31] (fun v31 wc => ∃ (kq : Nat) (D : Bool), v31 = .bool D ∧ Aside0 (spec_l11Product.j1 kq u A a D = some r) ∧ Aside0 (kq ≤ k1) ∧ Drawn0 w wc)
 case first =>
  have H := j0.out
  clear j0
  by_cases c4 : 0 ≤ a
  rotate_left
  · rw [if_neg c4] at H
    exact absurd H (by simp)
  rw [if_pos c4] at H
  have X := z1 c4
  clear c4
  (first | rw [X] | (simp only [i64_w, i32_w]; rw [X]) | skip)
  by_cases c5 : (rd u a) < 1
  · rw [if_pos c5] at H
    have n0 := z1 c5
    clear c5
    have H' := zK H
    clear H
    have l : 0 ≤ (a : Int) := z3
    have q : a < (u.length : Int) := z3
    obtain ⟨z, I, B⟩ := Kd.at_int E.out a l q
    cases I
    replace l := eq_true l
    replace q := eq_true q
    go_wp2
    go_meet
    case rel => exact ⟨_, (true), zR, H', ⟨by have := T.out; first | omega | exact Nat.le_refl _⟩, zD⟩
  rw [if_neg c5] at H
  have n0 := z2 c5
  clear c5
  by_cases c6 : (rd u a) > 65536
  · rw [if_pos c6] at H
    have o0 := z1 c6
    clear c6
    have H' := zK H
    clear H
    have l : 0 ≤ (a : Int) := z3
    have q : a < (u.length : Int) := z3
    obtain ⟨z, I, B⟩ := Kd.at_int E.out a l q
    cases I
    replace l := eq_true l
    replace q := eq_true q
    have x : 0 ≤ (a : Int) := z3
    have y : a < (u.length : Int) := z3
    obtain ⟨L, d0, J⟩ := Kd.at_int E.out a x y
    obtain rfl : z = L := (by injection d0)
    replace x := eq_true x
    replace y := eq_true y
    go_wp2
    go_meet
    case rel => exact ⟨_, (true), zR, H', ⟨by have := T.out; first | omega | exact Nat.le_refl _⟩, zD⟩
  rw [if_neg c6] at H
  have o0 := z2 c6
  clear c6
  have H' := zK H
  clear H
  have l : 0 ≤ (a : Int) := z3
  have q : a < (u.length : Int) := z3
  obtain ⟨z, I, B⟩ := Kd.at_int E.out a l q
  cases I
  replace l := eq_true l
  replace q := eq_true q
  have x : 0 ≤ (a : Int) := z3
  have y : a < (u.length : Int) := z3
  obtain ⟨L, d0, J⟩ := Kd.at_int E.out a x y
  obtain rfl : z = L := (by injection d0)
  replace x := eq_true x
  replace y := eq_true y
  have M : 0 ≤ (a : Int) := z3
  have O : a < (u.length : Int) := z3
  obtain ⟨p0, C0, g0⟩ := Kd.at_int E.out a M O
  obtain rfl : z = p0 := (by injection C0)
  replace M := eq_true M
  replace O := eq_true O
  go_wp2
  go_meet
  case rel => exact ⟨_, (decide ((wrap64 (A * (rd u a))) > 65536)), zR, H', ⟨by have := T.out; first | omega | exact Nat.le_refl _⟩, zD⟩
 case rest =>
  clear j0
  try clear p1
  try clear q1
  try clear O0
  try clear U
  try clear i0
  try clear p2
  try clear c4
  try clear X
  try clear c5
  try clear n0
  try clear c6
  try clear o0
  try clear p6
  try clear B
  try clear J
  try clear g0
  try clear l
  try clear x
  try clear M
  try clear q
  try clear y
  try clear O
  obtain ⟨kq, D, rfl, HA, B0, ⟨mc2, rfl⟩⟩ := hcut
  cases kq with
  | zero => exact absurd HA.out (by simp [spec_l11Product.j1])
  | succ I0 =>
   have H := HA.out
   clear HA
   simp only [spec_l11Product.j1] at H
   by_cases c7 : D = true
   · subst c7
     rw [if_pos rfl] at H
     obtain rfl := z5 H
     go_wp2
     go_ret
     exact ⟨zR, zD⟩
   replace c7 := Bool.eq_false_iff.mpr c7
   subst c7
   rw [if_neg (show ¬ (false = true) by decide)] at H
   by_cases c8 : 0 ≤ a
   rotate_left
   · rw [if_neg c8] at H
     exact absurd H (by simp)
   rw [if_pos c8] at H
   have L0 := z1 c8
   clear c8
   by_cases c9 : a < (u.length : Int)
   rotate_left
   · rw [if_neg c9] at H
     exact absurd H (by simp)
   rw [if_pos c9] at H
   have M0 := z1 c9
   clear c9
   have H' := zK H
   clear H
   have e0 : 0 ≤ (a : Int) := z3
   have f0 : a < (u.length : Int) := z3
   obtain ⟨J0, D0, E0⟩ := Kd.at_int E.out a e0 f0
   cases D0
   replace e0 := eq_true e0
   replace f0 := eq_true f0
   go_wp2
   go_roundg I0
   case measure => have := T.out; have := B0.out; omega
   case rel => exact ⟨(wrap64 (A * (rd u a))), (wrap64 (a + 1)), zR, zR, H', ⟨by have := T.out; have := B0.out; omega⟩, zD⟩
end Go.Proofs.Ytmcboiffbcnalaa.PFnExactPlanOk
