-- Printed out of the translation by this session's own turned copy of a printer; Lean checks it.
import Derived.Test.YtmcboiffbcnalaaPFnExactPlanOkx0
import Derived.Test.YtmcboiffbcnalaaPFnExactPlanOkx9
import Derived.Test.YtmcboiffbcnalaaPFnExactPlanOkx10
namespace Go.Proofs.Ytmcboiffbcnalaa.PFnExactPlanOk
open Go.RowKit Go.Proofs.YtmcboiffbcnalaaW.PrintWords Go.Proofs.YtmcboiffbcnalaaW.PrintLast Go.Proofs.YtmcboiffbcnalaaW.PrintMore
attribute [local go_sem] max2_int min2_int max_two min_two max_three min_three max_four min_four
set_option linter.unusedVariables false
set_option linter.unusedSimpArgs false
set_option maxHeartbeats 8000000
set_option maxRecDepth 100000
mutual
def spec_PackOk.j0 : Nat → List (S52) → List Int → Bool → Option (Bool)
 | 0, _, _, _ => none
 | k + 1, l, q, a => if a = true then (some false) else (spec_PackOk.l0 k l q 0)
def spec_PackOk.l0 : Nat → List (S52) → List Int → Int → Option (Bool)
 | 0, _, _, _ => none
 | k + 1, q, l, a => if a < (q.length : Int) then (if 0 ≤ a then (if a < (l.length : Int) then (if (rd l a) < 0 then (some false) else (if (rd l a) > 1000000 then (some false) else (spec_PackOk.l0 k q l (wrap64 (a + 1))))) else (none)) else (none)) else (spec_PackOk.l1 k q l 0)
def spec_PackOk.l1 : Nat → List (S52) → List Int → Int → Option (Bool)
 | 0, _, _, _ => none
 | k + 1, q, l, a => if a < (q.length : Int) then (if 0 ≤ a then (if a < (l.length : Int) then ((spec_l12Free.f k q l a (rd l a)).bind fun u => (if u = true then (spec_PackOk.l1 k q l (wrap64 (a + 1))) else (some false))) else (none)) else (none)) else (some true)
end
def spec_PackOk.f (k : Nat) (a : List (S52)) (l : List Int) : Option (Bool) := (spec_l12Ok.f k a).bind fun q => (if q = true then (spec_PackOk.j0 k a l ((l.length : Int) != (a.length : Int))) else (spec_PackOk.j0 k a l true))
theorem spec_PackOk.calls (k) (A0) (c0) (A : List (S52)) (A1) (c1) (u : List Int) (r : Bool) (w) (U0 : Kd.C k52 w A0 A.length A) (V0 : A.length ≤ c0) (X0 : Kd.C (Kd.int .i64) w A1 u.length u) (a1 : u.length ≤ c1) (h : spec_PackOk.f k A u = some r) :
 Calls Try.prog 22 #[.slice A0 A.length c0, .slice A1 u.length c1] w fun e w' => e = .returned (.bool r) ∧ Below w.heap.size w w' := by
 have s0 := zK U0
 have t0 := zK V0
 clear U0 V0
 have L := zK X0
 have b1 := zK a1
 clear X0 a1
 have HB := zK (Below.refl w.heap.size w)
 have H : ((spec_l12Ok.f k A).bind fun m0 => (if m0 = true then (spec_PackOk.j0 k A u ((u.length : Int) != (A.length : Int))) else (spec_PackOk.j0 k A u true))) = some r := h
 clear h
 have L0 := zK H
 clear H
 go_enter Try.func22, Try.ntmps22
 go_upto_region 1 with (fail)
 go_cut [16] (fun v16 wc => ∃ (kq : Nat) (M : Bool), v16 = .bool M ∧ Aside0 (spec_PackOk.j0 kq A u M = some r) ∧ Aside0 (kq ≤ k) ∧ Aside0 (Below w.heap.size w wc))
 case first =>
  have H := L0.out
  clear L0
  replace H := z6 H
  obtain ⟨m0, d1, H⟩ := H
  have A4 := zK d1
  clear d1
  by_cases c5 : m0 = true
  rotate_left
  · replace c5 := Bool.eq_false_iff.mpr c5
    subst c5
    rw [if_neg (show ¬ (false = true) by decide)] at H
    have H' := zK H
    clear H
    go_wp2_with (first | ((with_reducible refine gc 45 rfl ?_); refine zF 8 Try.func45 #[.slice A0 A.length c0] rfl zL ?_; refine (spec_l12Ok.calls k _ _ A false _ (zS s0) t0.out A4.out).mono ?_; rintro e w7 ⟨rfl, hb⟩; refine ⟨_, rfl, ?_⟩; have T := z8 hb; revert T; clear HB; intro HB))
    go_meet
    case rel => exact ⟨_, (true), zR, H', ⟨by first | omega | exact Nat.le_refl _⟩, ⟨zB⟩⟩
  subst c5
  rw [if_pos rfl] at H
  have H' := zK H
  clear H
  go_wp2_with (first | ((with_reducible refine gc 45 rfl ?_); refine zF 8 Try.func45 #[.slice A0 A.length c0] rfl zL ?_; refine (spec_l12Ok.calls k _ _ A true _ (zS s0) t0.out A4.out).mono ?_; rintro e w6 ⟨rfl, hb⟩; refine ⟨_, rfl, ?_⟩; have T := z8 hb; revert T; clear HB; intro HB))
  go_meet
  case rel => exact ⟨_, (((u.length : Int) != (A.length : Int))), zR, H', ⟨by first | omega | exact Nat.le_refl _⟩, ⟨zB⟩⟩
 case rest =>
  clear L0
  try clear c1
  try clear c2
  try clear p2
  try clear c4
  try clear c5
  obtain ⟨kq, M, rfl, HA, x0, HB⟩ := hcut
  cases kq with
  | zero => exact absurd HA.out (by simp [spec_PackOk.j0])
  | succ e1 =>
   have H := HA.out
   clear HA
   simp only [spec_PackOk.j0] at H
   by_cases c8 : M = true
   · subst c8
     rw [if_pos rfl] at H
     obtain rfl := z5 H
     go_wp2
     go_ret
     exact ⟨zE, zB⟩
   replace c8 := Bool.eq_false_iff.mpr c8
   subst c8
   rw [if_neg (show ¬ (false = true) by decide)] at H
   have H' := zK H
   clear H
   go_wp2
   go_loopg [5] e1 (fun kq v5 w' => ∃ (a : Int), v5 = .int .i64 a ∧ Aside0 (spec_PackOk.l0 kq A u a = some r) ∧ Aside0 (kq ≤ e1) ∧ Aside0 (Below w.heap.size w w'))
   case atStart => exact ⟨(0), zR, H', ⟨Nat.le_refl _⟩, ⟨zB⟩⟩
   clear H'
   try clear c1
   try clear c2
   try clear p2
   try clear c4
   try clear c5
   try clear c8
   try clear p2
   obtain ⟨a, rfl, HA, y0, HB⟩ := hrel
   rcases gk with _ | k2
   · exact absurd HA.out (by simp [spec_PackOk.l0])
   have H := HA.out
   clear HA
   simp only [spec_PackOk.l0] at H
   by_cases c9 : a < (A.length : Int)
   · rw [if_pos c9] at H
     have M0 := z1 c9
     clear c9
     by_cases f0 : 0 ≤ a
     rotate_left
     · rw [if_neg f0] at H
       exact absurd H (by simp)
     rw [if_pos f0] at H
     have R0 := z1 f0
     clear f0
     by_cases g0 : a < (u.length : Int)
     rotate_left
     · rw [if_neg g0] at H
       exact absurd H (by simp)
     rw [if_pos g0] at H
     have S0 := z1 g0
     clear g0
     by_cases U : (rd u a) < 0
     · rw [if_pos U] at H
       have B0 := z1 U
       clear U
       obtain rfl := z5 H
       have x : 0 ≤ (a : Int) := z3
       have y : a < (u.length : Int) := z3
       obtain ⟨O, X, q⟩ := Kd.at_int L.out a x y
       cases X
       (try replace q := zX HB q)
       replace x := eq_true x
       replace y := eq_true y
       go_wp2
       go_ret
       exact ⟨zE, zB⟩
     rw [if_neg U] at H
     have B0 := z2 U
     clear U
     by_cases a0 : (rd u a) > 1000000
     · rw [if_pos a0] at H
       have C0 := z1 a0
       clear a0
       obtain rfl := z5 H
       have x : 0 ≤ (a : Int) := z3
       have y : a < (u.length : Int) := z3
       obtain ⟨O, X, q⟩ := Kd.at_int L.out a x y
       cases X
       (try replace q := zX HB q)
       replace x := eq_true x
       replace y := eq_true y
       have D : 0 ≤ (a : Int) := z3
       have E : a < (u.length : Int) := z3
       obtain ⟨d0, p0, z⟩ := Kd.at_int L.out a D E
       obtain rfl : O = d0 := (by injection p0)
       (try replace z := zX HB z)
       replace D := eq_true D
       replace E := eq_true E
       go_wp2
       go_ret
       exact ⟨zE, zB⟩
     rw [if_neg a0] at H
     have C0 := z2 a0
     clear a0
     have H' := zK H
     clear H
     have x : 0 ≤ (a : Int) := z3
     have y : a < (u.length : Int) := z3
     obtain ⟨O, X, q⟩ := Kd.at_int L.out a x y
     cases X
     (try replace q := zX HB q)
     replace x := eq_true x
     replace y := eq_true y
     have D : 0 ≤ (a : Int) := z3
     have E : a < (u.length : Int) := z3
     obtain ⟨d0, p0, z⟩ := Kd.at_int L.out a D E
     obtain rfl : O = d0 := (by injection p0)
     (try replace z := zX HB z)
     replace D := eq_true D
     replace E := eq_true E
     go_wp2
     go_roundg k2
     case measure => have := x0.out; have := y0.out; omega
     case rel => exact ⟨(wrap64 (a + 1)), zR, H', ⟨by have := x0.out; have := y0.out; omega⟩, ⟨zB⟩⟩
   rw [if_neg c9] at H
   have M0 := z2 c9
   clear c9
   have H' := zK H
   clear H
   go_wp2
   go_loopg [6] k2 (fun kq v6 w' => ∃ (l : Int), v6 = .int .i64 l ∧ Aside0 (spec_PackOk.l1 kq A u l = some r) ∧ Aside0 (kq ≤ k2) ∧ Aside0 (Below w.heap.size w w'))
   case atStart => exact ⟨(0), zR, H', ⟨Nat.le_refl _⟩, ⟨zB⟩⟩
   clear H'
   try clear c1
   try clear c2
   try clear p2
   try clear q2
   try clear s1
   try clear c4
   try clear c5
   try clear p6
   try clear c8
   try clear c9
   try clear M0
   try clear f0
   try clear R0
   try clear g0
   try clear S0
   try clear U
   try clear B0
   try clear a0
   try clear C0
   try clear q
   try clear z
   try clear p2
   try clear x
   try clear D
   try clear y
   try clear E
   obtain ⟨l, rfl, HA, f1, HB⟩ := hrel
   rcases gk with _ | k3
   · exact absurd HA.out (by simp [spec_PackOk.l1])
   have H := HA.out
   clear HA
   simp only [spec_PackOk.l1] at H
   by_cases b0 : l < (A.length : Int)
   rotate_left
   · rw [if_neg b0] at H
     have T0 := z2 b0
     clear b0
     obtain rfl := z5 H
     go_wp2
     go_ret
     exact ⟨zE, zB⟩
   rw [if_pos b0] at H
   have T0 := z1 b0
   clear b0
   by_cases D0 : 0 ≤ l
   rotate_left
   · rw [if_neg D0] at H
     exact absurd H (by simp)
   rw [if_pos D0] at H
   have p1 := z1 D0
   clear D0
   by_cases E0 : l < (u.length : Int)
   rotate_left
   · rw [if_neg E0] at H
     exact absurd H (by simp)
   rw [if_pos E0] at H
   have q1 := z1 E0
   clear E0
   replace H := z6 H
   obtain ⟨i1, N0, H⟩ := H
   have g1 := zK N0
   clear N0
   by_cases F0 : i1 = true
   rotate_left
   · replace F0 := Bool.eq_false_iff.mpr F0
     subst F0
     rw [if_neg (show ¬ (false = true) by decide)] at H
     obtain rfl := z5 H
     have I : 0 ≤ (l : Int) := z3
     have J : l < (u.length : Int) := z3
     obtain ⟨e0, q0, B⟩ := Kd.at_int L.out l I J
     cases q0
     (try replace B := zX HB B)
     replace I := eq_true I
     replace J := eq_true J
     go_wp2_with (first | ((with_reducible refine gc 46 rfl ?_); refine zF 48 Try.func46 #[.slice A0 A.length c0, .slice (some e0) u.length c1, .int .i64 l, .int .i64 (rd u l)] rfl zL ?_; refine (spec_l12Free.calls k3 _ _ A _ _ u l (rd u l) false _ (zS s0) t0.out (zS L) b1.out g1.out).mono ?_; rintro e t1 ⟨rfl, hb⟩; refine ⟨_, rfl, ?_⟩; have T := z8 hb; revert T; clear HB; intro HB))
     go_ret
     exact ⟨zE, zB⟩
   subst F0
   rw [if_pos rfl] at H
   have H' := zK H
   clear H
   have I : 0 ≤ (l : Int) := z3
   have J : l < (u.length : Int) := z3
   obtain ⟨e0, q0, B⟩ := Kd.at_int L.out l I J
   cases q0
   (try replace B := zX HB B)
   replace I := eq_true I
   replace J := eq_true J
   go_wp2_with (first | ((with_reducible refine gc 46 rfl ?_); refine zF 48 Try.func46 #[.slice A0 A.length c0, .slice (some e0) u.length c1, .int .i64 l, .int .i64 (rd u l)] rfl zL ?_; refine (spec_l12Free.calls k3 _ _ A _ _ u l (rd u l) true _ (zS s0) t0.out (zS L) b1.out g1.out).mono ?_; rintro e x1 ⟨rfl, hb⟩; refine ⟨_, rfl, ?_⟩; have T := z8 hb; revert T; clear HB; intro HB))
   go_roundg k3
   case measure => have := x0.out; have := y0.out; have := f1.out; omega
   case rel => exact ⟨(wrap64 (l + 1)), zR, H', ⟨by have := x0.out; have := y0.out; have := f1.out; omega⟩, ⟨zB⟩⟩
end Go.Proofs.Ytmcboiffbcnalaa.PFnExactPlanOk
