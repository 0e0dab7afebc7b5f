-- Printed out of the translation by this session's own turned copy of a printer; Lean checks it.
import Derived.Test.YtdlhmhgpafegpaaPFnExactWeightsx0
import Derived.Test.YtdlhmhgpafegpaaPFnExactWeightsx4
namespace Go.Proofs.Ytdlhmhgpafegpaa.PFnExactWeights
open Go.RowKit Go.Proofs.YtdlhmhgpafegpaaW.PrintWords Go.Proofs.YtdlhmhgpafegpaaW.PrintLast Go.Proofs.YtdlhmhgpafegpaaW.PrintMore
attribute [local go_sem] max2_int min2_int max_two min_two max_three min_three max_four min_four
set_option linter.unusedVariables false
set_option linter.unusedSimpArgs false
set_option maxHeartbeats 8000000
set_option maxRecDepth 100000
def impl_allWithin.l0 : Nat → Int → Int → List Int → Int → Int → Option (Bool)
 | 0, _, _, _, _, _ => none
 | k + 1, z, A, u, q, l => if l < q then (if 0 ≤ l then (if l < (u.length : Int) then ((impl_within.f (rd u l) z A).bind fun y => (if y = true then (impl_allWithin.l0 k z A u q (wrap64 (l + 1))) else (some false))) else (none)) else (none)) else (some true)
def impl_allWithin.f (k : Nat) (l : List Int) (q : Int) (u : Int) : Option (Bool) := impl_allWithin.l0 k q u l (l.length : Int) 0
theorem impl_allWithin.calls (k) (A0) (c0) (q : List Int) (z) (A) (r : Bool) (w) (T : Kd.C (Kd.int .i64) w A0 q.length q) (U : q.length ≤ c0) (h : impl_allWithin.f k q z A = some r) :
 Calls Try.prog 34 #[.slice A0 q.length c0, .int .i64 z, .int .i64 A] w fun e w' => e = .returned (.bool r) ∧ Drawn0 w w' := by
 have X := zK T
 have n0 := zK U
 clear T U
 have H : (impl_allWithin.l0 k z A q (q.length : Int) 0) = some r := h
 clear h
 have H' := zK H
 clear H
 go_enter Try.func34, Try.ntmps34
 go_wp2
 go_loopg [11] k (fun kq v11 w' => ∃ (l : Int), v11 = .int .i64 l ∧ Aside0 (impl_allWithin.l0 kq z A q (q.length : Int) l = some r) ∧ Aside0 (kq ≤ k) ∧ Drawn0 w w')
 case atStart => exact ⟨(0), zR, H', ⟨Nat.le_refl _⟩, zD⟩
 clear H'
 try clear p2
 try clear c3
 obtain ⟨l, rfl, HA, a0, ⟨m1, rfl⟩⟩ := hrel
 rcases gk with _ | k1
 · exact absurd HA.out (by simp [impl_allWithin.l0])
 have H := HA.out
 clear HA
 simp only [impl_allWithin.l0] at H
 by_cases E : l < (q.length : Int)
 rotate_left
 · rw [if_neg E] at H
   have d0 := z2 E
   clear E
   obtain rfl := z5 H
   go_wp2
   go_ret
   exact ⟨zR, zD⟩
 rw [if_pos E] at H
 have d0 := z1 E
 clear E
 by_cases J : 0 ≤ l
 rotate_left
 · rw [if_neg J] at H
   exact absurd H (by simp)
 rw [if_pos J] at H
 have j0 := z1 J
 clear J
 by_cases L : l < (q.length : Int)
 rotate_left
 · rw [if_neg L] at H
   exact absurd H (by simp)
 rw [if_pos L] at H
 have m0 := z1 L
 clear L
 replace H := z6 H
 obtain ⟨e0, b0, H⟩ := H
 have A7 := zK b0
 clear b0
 by_cases M : e0 = true
 rotate_left
 · replace M := Bool.eq_false_iff.mpr M
   subst M
   rw [if_neg (show ¬ (false = true) by decide)] at H
   obtain rfl := z5 H
   have u : 0 ≤ (l : Int) := z3
   have y : l < (q.length : Int) := z3
   obtain ⟨O, B, I⟩ := Kd.at_int X.out l u y
   cases B
   replace u := eq_true u
   replace y := eq_true y
   go_wp2_with (first | ((with_reducible refine gc 32 rfl ?_); refine zF 18 Try.func32 #[.int .i64 (rd q l), .int .i64 z, .int .i64 A] rfl zL ?_; (with_reducible refine (impl_within.calls (rd q l) z A false _ A7.out).mono ?_); rintro e w' ⟨rfl, ⟨nd, rfl⟩⟩; refine ⟨_, rfl, ?_⟩))
   go_ret
   exact ⟨zR, zD⟩
 subst M
 rw [if_pos rfl] at H
 have H' := zK H
 clear H
 have u : 0 ≤ (l : Int) := z3
 have y : l < (q.length : Int) := z3
 obtain ⟨O, B, I⟩ := Kd.at_int X.out l u y
 cases B
 replace u := eq_true u
 replace y := eq_true y
 go_wp2_with (first | ((with_reducible refine gc 32 rfl ?_); refine zF 18 Try.func32 #[.int .i64 (rd q l), .int .i64 z, .int .i64 A] rfl zL ?_; (with_reducible refine (impl_within.calls (rd q l) z A true _ A7.out).mono ?_); rintro e w' ⟨rfl, ⟨nd, rfl⟩⟩; refine ⟨_, rfl, ?_⟩))
 go_roundg k1
 case measure => have := a0.out; omega
 case rel => exact ⟨(wrap64 (l + 1)), zR, H', ⟨by have := a0.out; omega⟩, zD⟩
def impl_all.l0 : Nat → Int → List Int → Int → Int → Option (Bool)
 | 0, _, _, _, _ => none
 | k + 1, u, q, y, l => if l < y then (if 0 ≤ l then (if l < (q.length : Int) then (if u = (rd q l) then (impl_all.l0 k u q y (wrap64 (l + 1))) else (some false)) else (none)) else (none)) else (some true)
def impl_all.f (k : Nat) (l : List Int) (q : Int) : Option (Bool) := impl_all.l0 k q l (l.length : Int) 0
theorem impl_all.calls (k) (A0) (c0) (y : List Int) (I) (r : Bool) (w) (O : Kd.C (Kd.int .i64) w A0 y.length y) (T : y.length ≤ c0) (h : impl_all.f k y I = some r) :
 Calls Try.prog 35 #[.slice A0 y.length c0, .int .i64 I] w fun e w' => e = .returned (.bool r) ∧ Drawn0 w w' := by
 have U := zK O
 have j0 := zK T
 clear O T
 have H : (impl_all.l0 k I y (y.length : Int) 0) = some r := h
 clear h
 have H' := zK H
 clear H
 go_enter Try.func35, Try.ntmps35
 go_wp2
 go_loopg [9] k (fun kq v9 w' => ∃ (l : Int), v9 = .int .i64 l ∧ Aside0 (impl_all.l0 kq I y (y.length : Int) l = some r) ∧ Aside0 (kq ≤ k) ∧ Drawn0 w w')
 case atStart => exact ⟨(0), zR, H', ⟨Nat.le_refl _⟩, zD⟩
 clear H'
 try clear p2
 obtain ⟨l, rfl, HA, X, ⟨m1, rfl⟩⟩ := hrel
 rcases gk with _ | k1
 · exact absurd HA.out (by simp [impl_all.l0])
 have H := HA.out
 clear HA
 simp only [impl_all.l0] at H
 by_cases B : l < (y.length : Int)
 rotate_left
 · rw [if_neg B] at H
   have a0 := z2 B
   clear B
   obtain rfl := z5 H
   go_wp2
   go_ret
   exact ⟨zR, zD⟩
 rw [if_pos B] at H
 have a0 := z1 B
 clear B
 by_cases J : 0 ≤ l
 rotate_left
 · rw [if_neg J] at H
   exact absurd H (by simp)
 rw [if_pos J] at H
 have g0 := z1 J
 clear J
 by_cases L : l < (y.length : Int)
 rotate_left
 · rw [if_neg L] at H
   exact absurd H (by simp)
 rw [if_pos L] at H
 have i0 := z1 L
 clear L
 by_cases z : I = (rd y l)
 rotate_left
 · rw [if_neg z] at H
   have b0 := beq_eq_false_iff_ne.mpr z
   have d0 := bne_iff_ne.mpr z
   obtain rfl := z5 H
   have q : 0 ≤ (l : Int) := z3
   have u : l < (y.length : Int) := z3
   obtain ⟨M, A, E⟩ := Kd.at_int U.out l q u
   cases A
   replace q := eq_true q
   replace u := eq_true u
   go_wp2
   go_ret
   exact ⟨zR, zD⟩
 rw [if_pos z] at H
 have b0 := beq_iff_eq.mpr z
 have d0 := bne_eq_false_iff_eq.mpr z
 clear z
 have H' := zK H
 clear H
 have q : 0 ≤ (l : Int) := z3
 have u : l < (y.length : Int) := z3
 obtain ⟨M, A, E⟩ := Kd.at_int U.out l q u
 cases A
 replace q := eq_true q
 replace u := eq_true u
 go_wp2
 go_roundg k1
 case measure => have := X.out; omega
 case rel => exact ⟨(wrap64 (l + 1)), zR, H', ⟨by have := X.out; omega⟩, zD⟩
def cmp_Or_int.l0 : Nat → Int → List Int → Int → Int → Option (Int)
 | 0, _, _, _, _ => none
 | k + 1, u, q, y, l => if l < y then (if 0 ≤ l then (if l < (q.length : Int) then (if (rd q l) = u then (cmp_Or_int.l0 k u q y (wrap64 (l + 1))) else (some (rd q l))) else (none)) else (none)) else (some u)
def cmp_Or_int.f (k : Nat) (l : List Int) : Option (Int) := cmp_Or_int.l0 k 0 l (l.length : Int) 0
theorem cmp_Or_int.calls (k) (A0) (c0) (y : List Int) (r) (w) (M : Kd.C (Kd.int .i64) w A0 y.length y) (O : y.length ≤ c0) (h : cmp_Or_int.f k y = some r) :
 Calls Try.prog 54 #[.slice A0 y.length c0] w fun e w' => e = .returned (.int .i64 r) ∧ Drawn0 w w' := by
 have T := zK M
 have i0 := zK O
 clear M O
 have H : (cmp_Or_int.l0 k 0 y (y.length : Int) 0) = some r := h
 clear h
 have H' := zK H
 clear H
 go_enter Try.func54, Try.ntmps54
 go_wp2
 go_loopg [8] k (fun kq v8 w' => ∃ (l : Int), v8 = .int .i64 l ∧ Aside0 (cmp_Or_int.l0 kq 0 y (y.length : Int) l = some r) ∧ Aside0 (kq ≤ k) ∧ Drawn0 w w')
 case atStart => exact ⟨(0), zR, H', ⟨Nat.le_refl _⟩, zD⟩
 clear H'
 obtain ⟨l, rfl, HA, U, ⟨m1, rfl⟩⟩ := hrel
 rcases gk with _ | k1
 · exact absurd HA.out (by simp [cmp_Or_int.l0])
 have H := HA.out
 clear HA
 simp only [cmp_Or_int.l0] at H
 by_cases B : l < (y.length : Int)
 rotate_left
 · rw [if_neg B] at H
   have X := z2 B
   clear B
   obtain rfl := z5 H
   go_wp2
   go_ret
   exact ⟨zR, zD⟩
 rw [if_pos B] at H
 have X := z1 B
 clear B
 by_cases I : 0 ≤ l
 rotate_left
 · rw [if_neg I] at H
   exact absurd H (by simp)
 rw [if_pos I] at H
 have f0 := z1 I
 clear I
 by_cases J : l < (y.length : Int)
 rotate_left
 · rw [if_neg J] at H
   exact absurd H (by simp)
 rw [if_pos J] at H
 have g0 := z1 J
 clear J
 by_cases z : (rd y l) = 0
 rotate_left
 · rw [if_neg z] at H
   have a0 := beq_eq_false_iff_ne.mpr z
   have b0 := bne_iff_ne.mpr z
   obtain rfl := z5 H
   have q : 0 ≤ (l : Int) := z3
   have u : l < (y.length : Int) := z3
   obtain ⟨L, A, E⟩ := Kd.at_int T.out l q u
   cases A
   replace q := eq_true q
   replace u := eq_true u
   go_wp2
   go_ret
   exact ⟨zR, zD⟩
 rw [if_pos z] at H
 have a0 := beq_iff_eq.mpr z
 have b0 := bne_eq_false_iff_eq.mpr z
 clear z
 have H' := zK H
 clear H
 have q : 0 ≤ (l : Int) := z3
 have u : l < (y.length : Int) := z3
 obtain ⟨L, A, E⟩ := Kd.at_int T.out l q u
 cases A
 replace q := eq_true q
 replace u := eq_true u
 go_wp2
 go_roundg k1
 case measure => have := U.out; omega
 case rel => exact ⟨(wrap64 (l + 1)), zR, H', ⟨by have := U.out; omega⟩, zD⟩
def cmp_isNaN_int.f (l : Int) : Option (Bool) := some (l != l)
theorem cmp_isNaN_int.calls (l) (r : Bool) (w) (h : cmp_isNaN_int.f l = some r) :
 Calls Try.prog 64 #[.int .i64 l] w fun e w' => e = .returned (.bool r) ∧ Drawn0 w w' := by
 have H : (some (l != l)) = some r := h
 clear h
 obtain rfl := z5 H
 go_enter Try.func64, Try.ntmps64
 go_wp2
 go_ret
 exact ⟨zR, zD⟩
def cmp_Compare_int.f (q : Int) (u : Int) : Option (Int) := (cmp_isNaN_int.f q).bind fun y => ((cmp_isNaN_int.f u).bind fun l => (if y = true then (if l = true then (some 0) else (some (-1))) else (if l = true then (some 1) else (if q < u then (some (-1)) else (if q > u then (some 1) else (some 0))))))
theorem cmp_Compare_int.calls (l) (q) (r) (w) (h : cmp_Compare_int.f l q = some r) :
 Calls Try.prog 55 #[.int .i64 l, .int .i64 q] w fun e w' => e = .returned (.int .i64 r) ∧ Drawn0 w w' := by
 have H : ((cmp_isNaN_int.f l).bind fun y => ((cmp_isNaN_int.f q).bind fun u => (if y = true then (if u = true then (some 0) else (some (-1))) else (if u = true then (some 1) else (if l < q then (some (-1)) else (if l > q then (some 1) else (some 0))))))) = some r := h
 clear h
 replace H := z6 H
 obtain ⟨y, J, H⟩ := H
 have M := zK J
 clear J
 replace H := z6 H
 obtain ⟨u, L, H⟩ := H
 have O := zK L
 clear L
 by_cases B : y = true
 · subst B
   rw [if_pos rfl] at H
   by_cases E : u = true
   · subst E
     rw [if_pos rfl] at H
     obtain rfl := z5 H
     go_enter Try.func55, Try.ntmps55
     go_wp2_with (first | ((with_reducible refine gc 64 rfl ?_); refine zF 8 Try.func64 #[.int .i64 l] rfl zL ?_; (with_reducible refine (cmp_isNaN_int.calls l true _ M.out).mono ?_); rintro e w' ⟨rfl, ⟨nd, rfl⟩⟩; refine ⟨_, rfl, ?_⟩) | ((with_reducible refine gc 64 rfl ?_); refine zF 10 Try.func64 #[.int .i64 q] rfl zL ?_; (with_reducible refine (cmp_isNaN_int.calls q true _ O.out).mono ?_); rintro e w' ⟨rfl, ⟨nd, rfl⟩⟩; refine ⟨_, rfl, ?_⟩))
     go_ret
     exact ⟨zR, zD⟩
   replace E := Bool.eq_false_iff.mpr E
   subst E
   rw [if_neg (show ¬ (false = true) by decide)] at H
   obtain rfl := z5 H
   go_enter Try.func55, Try.ntmps55
   go_wp2_with (first | ((with_reducible refine gc 64 rfl ?_); refine zF 8 Try.func64 #[.int .i64 l] rfl zL ?_; (with_reducible refine (cmp_isNaN_int.calls l true _ M.out).mono ?_); rintro e w' ⟨rfl, ⟨nd, rfl⟩⟩; refine ⟨_, rfl, ?_⟩) | ((with_reducible refine gc 64 rfl ?_); refine zF 10 Try.func64 #[.int .i64 q] rfl zL ?_; (with_reducible refine (cmp_isNaN_int.calls q false _ O.out).mono ?_); rintro e w' ⟨rfl, ⟨nd, rfl⟩⟩; refine ⟨_, rfl, ?_⟩))
   go_ret
   exact ⟨zR, zD⟩
 replace B := Bool.eq_false_iff.mpr B
 subst B
 rw [if_neg (show ¬ (false = true) by decide)] at H
 by_cases I : u = true
 subst I
 rw [if_pos rfl] at H
 obtain rfl := z5 H
 rotate_left
 replace I := Bool.eq_false_iff.mpr I
 subst I
 rw [if_neg (show ¬ (false = true) by decide)] at H
 by_cases z : l < q
 rw [if_pos z] at H
 have T := z1 z
 clear z
 obtain rfl := z5 H
 rotate_left
 rw [if_neg z] at H
 have T := z2 z
 clear z
 by_cases A : l > q
 rw [if_pos A] at H
 have U := z1 A
 clear A
 obtain rfl := z5 H
 rotate_left
 rw [if_neg A] at H
 have U := z2 A
 clear A
 obtain rfl := z5 H
 all_goals go_enter Try.func55, Try.ntmps55
 all_goals go_wp2_with (first | ((with_reducible refine gc 64 rfl ?_); refine zF 8 Try.func64 #[.int .i64 l] rfl zL ?_; (with_reducible refine (cmp_isNaN_int.calls l false _ M.out).mono ?_); rintro e w' ⟨rfl, ⟨nd, rfl⟩⟩; refine ⟨_, rfl, ?_⟩) | ((with_reducible refine gc 64 rfl ?_); refine zF 10 Try.func64 #[.int .i64 q] rfl zL ?_; (with_reducible refine (cmp_isNaN_int.calls q _ _ O.out).mono ?_); rintro e w' ⟨rfl, ⟨nd, rfl⟩⟩; refine ⟨_, rfl, ?_⟩))
 all_goals go_ret
 all_goals exact ⟨zR, zD⟩
def slices_Compare_int_int.l0 : Nat → List Int → List Int → List Int → Int → Int → Option (Int)
 | 0, _, _, _, _, _ => none
 | k + 1, A, q, z, y, l => if l < y then (if 0 ≤ l then (if l < (z.length : Int) then (if l ≥ (q.length : Int) then (some 1) else (if l < (q.length : Int) then ((cmp_Compare_int.f (rd z l) (rd q l)).bind fun u => (if u = 0 then (slices_Compare_int_int.l0 k A q z y (wrap64 (l + 1))) else (some u))) else (none))) else (none)) else (none)) else (if (A.length : Int) < (q.length : Int) then (some (-1)) else (some 0))
def slices_Compare_int_int.f (k : Nat) (l : List Int) (q : List Int) : Option (Int) := slices_Compare_int_int.l0 k l q l (l.length : Int) 0
theorem slices_Compare_int_int.calls (k) (A0) (c0) (q : List Int) (A1) (c1) (z : List Int) (r) (w) (m0 : Kd.C (Kd.int .i64) w A0 q.length q) (n0 : q.length ≤ c0) (o0 : Kd.C (Kd.int .i64) w A1 z.length z) (p0 : z.length ≤ c1) (h : slices_Compare_int_int.f k q z = some r) :
 Calls Try.prog 56 #[.slice A0 q.length c0, .slice A1 z.length c1] w fun e w' => e = .returned (.int .i64 r) ∧ Drawn0 w w' := by
 have b0 := zK m0
 have N0 := zK n0
 clear m0 n0
 have q0 := zK o0
 have O0 := zK p0
 clear o0 p0
 have H : (slices_Compare_int_int.l0 k q z q (q.length : Int) 0) = some r := h
 clear h
 have H' := zK H
 clear H
 go_enter Try.func56, Try.ntmps56
 go_wp2
 go_loopg [11] k (fun kq v11 w' => ∃ (l : Int), v11 = .int .i64 l ∧ Aside0 (slices_Compare_int_int.l0 kq q z q (q.length : Int) l = some r) ∧ Aside0 (kq ≤ k) ∧ Drawn0 w w')
 case atStart => exact ⟨(0), zR, H', ⟨Nat.le_refl _⟩, zD⟩
 clear H'
 try clear c1
 try clear p2
 obtain ⟨l, rfl, HA, s0, ⟨m1, rfl⟩⟩ := hrel
 rcases gk with _ | k1
 · exact absurd HA.out (by simp [slices_Compare_int_int.l0])
 have H := HA.out
 clear HA
 simp only [slices_Compare_int_int.l0] at H
 by_cases U : l < (q.length : Int)
 rotate_left
 · rw [if_neg U] at H
   have y0 := z2 U
   clear U
   by_cases E : (q.length : Int) < (z.length : Int)
   · rw [if_pos E] at H
     have d0 := z1 E
     have e0 : decide (q.length < z.length) = true := z1 (Int.ofNat_lt.mp E)
     clear E
     obtain rfl := z5 H
     go_wp2
     go_ret
     exact ⟨zR, zD⟩
   rw [if_neg E] at H
   have d0 := z2 E
   have e0 : decide (q.length < z.length) = false := z2 (fun h => E (Int.ofNat_lt.mpr h))
   clear E
   obtain rfl := z5 H
   go_wp2
   go_ret
   exact ⟨zR, zD⟩
 rw [if_pos U] at H
 have y0 := z1 U
 clear U
 by_cases c4 : 0 ≤ l
 rotate_left
 · rw [if_neg c4] at H
   exact absurd H (by simp)
 rw [if_pos c4] at H
 have J0 := z1 c4
 clear c4
 by_cases c5 : l < (q.length : Int)
 rotate_left
 · rw [if_neg c5] at H
   exact absurd H (by simp)
 rw [if_pos c5] at H
 have L0 := z1 c5
 clear c5
 by_cases X : l ≥ (z.length : Int)
 · rw [if_pos X] at H
   have B0 := z1 X
   clear X
   obtain rfl := z5 H
   have u : 0 ≤ (l : Int) := z3
   have y : l < (q.length : Int) := z3
   obtain ⟨T, I, J⟩ := Kd.at_int b0.out l u y
   cases I
   replace u := eq_true u
   replace y := eq_true y
   go_wp2
   go_ret
   exact ⟨zR, zD⟩
 rw [if_neg X] at H
 have B0 := z2 X
 clear X
 by_cases c7 : l < (z.length : Int)
 rotate_left
 · rw [if_neg c7] at H
   exact absurd H (by simp)
 rw [if_pos c7] at H
 have M0 := z1 c7
 clear c7
 replace H := z6 H
 obtain ⟨L, t0, H⟩ := H
 have A8 := zK t0
 clear t0
 by_cases M : L = 0
 rotate_left
 · rw [if_neg M] at H
   have C0 := beq_eq_false_iff_ne.mpr M
   have D0 := bne_iff_ne.mpr M
   obtain rfl := z5 H
   have u : 0 ≤ (l : Int) := z3
   have y : l < (q.length : Int) := z3
   obtain ⟨T, I, J⟩ := Kd.at_int b0.out l u y
   cases I
   replace u := eq_true u
   replace y := eq_true y
   have A : 0 ≤ (l : Int) := z3
   have B : l < (z.length : Int) := z3
   obtain ⟨j0, O, a0⟩ := Kd.at_int q0.out l A B
   cases O
   replace A := eq_true A
   replace B := eq_true B
   go_wp2_with (first | ((with_reducible refine gc 55 rfl ?_); refine zF 26 Try.func55 #[.int .i64 (rd q l), .int .i64 (rd z l)] rfl zL ?_; (with_reducible refine (cmp_Compare_int.calls (rd q l) (rd z l) L _ A8.out).mono ?_); rintro e w' ⟨rfl, ⟨nd, rfl⟩⟩; refine ⟨_, rfl, ?_⟩))
   go_ret
   exact ⟨zR, zD⟩
 rw [if_pos M] at H
 have C0 := beq_iff_eq.mpr M
 have D0 := bne_eq_false_iff_eq.mpr M
 clear M
 have H' := zK H
 clear H
 have u : 0 ≤ (l : Int) := z3
 have y : l < (q.length : Int) := z3
 obtain ⟨T, I, J⟩ := Kd.at_int b0.out l u y
 cases I
 replace u := eq_true u
 replace y := eq_true y
 have A : 0 ≤ (l : Int) := z3
 have B : l < (z.length : Int) := z3
 obtain ⟨j0, O, a0⟩ := Kd.at_int q0.out l A B
 cases O
 replace A := eq_true A
 replace B := eq_true B
 go_wp2_with (first | ((with_reducible refine gc 55 rfl ?_); refine zF 26 Try.func55 #[.int .i64 (rd q l), .int .i64 (rd z l)] rfl zL ?_; (with_reducible refine (cmp_Compare_int.calls (rd q l) (rd z l) L _ A8.out).mono ?_); rintro e w' ⟨rfl, ⟨nd, rfl⟩⟩; refine ⟨_, rfl, ?_⟩))
 go_roundg k1
 case measure => have := s0.out; omega
 case rel => exact ⟨(wrap64 (l + 1)), zR, H', ⟨by have := s0.out; omega⟩, zD⟩
def impl_byKey.f (k : Nat) (y : List Int) (z : List Int) : Option (Int) := (cmp_Compare_int.f (y.length : Int) (z.length : Int)).bind fun l => ((slices_Compare_int_int.f k y z).bind fun q => ((cmp_Or_int.f k (([l, q] : List Int))).bind fun u => (some u)))
theorem impl_byKey.calls (k) (A0) (c0) (y : List Int) (A1) (c1) (z : List Int) (r) (w) (L : Kd.C (Kd.int .i64) w A0 y.length y) (O : y.length ≤ c0) (T : Kd.C (Kd.int .i64) w A1 z.length z) (U : z.length ≤ c1) (h : impl_byKey.f k y z = some r) :
 Calls Try.prog 36 #[.slice A0 y.length c0, .slice A1 z.length c1] w fun e w' => e = .returned (.int .i64 r) ∧ Below w.heap.size w w' := by
 have i0 := zK L
 have j0 := zK O
 clear L O
 have m0 := zK T
 have n0 := zK U
 clear T U
 have HB := zK (Below.refl w.heap.size w)
 have H : ((cmp_Compare_int.f (y.length : Int) (z.length : Int)).bind fun l => ((slices_Compare_int_int.f k y z).bind fun q => ((cmp_Or_int.f k (([l, q] : List Int))).bind fun A => (some A)))) = some r := h
 clear h
 replace H := z6 H
 obtain ⟨l, X, H⟩ := H
 have A3 := zK X
 clear X
 replace H := z6 H
 obtain ⟨q, a0, H⟩ := H
 have A4 := zK a0
 clear a0
 obtain ⟨I, u⟩ : ∃ y_ : List Int, y_ = (([l, q] : List Int)) := ⟨_, rfl⟩
 replace H : ((cmp_Or_int.f k I).bind fun A => (some A)) = some r := by first | (rw [u]; with_reducible exact H) | (have J := (Option.bind_some _ _).symm.trans H; rw [u]; with_reducible exact J) | (have J := (Option.bind_some _ _).symm.trans H; with_reducible exact J) | with_reducible exact H | (rw [u]; exact H) | exact H
 have Ny214 := zK u
 clear u
 replace H := z6 H
 obtain ⟨A, b0, H⟩ := H
 have A5 := zK b0
 clear b0
 obtain rfl := z5 H
 go_enter Try.func36, Try.ntmps36
 go_wp2_with (first | ((with_reducible refine gc 55 rfl ?_); refine zF 9 Try.func55 #[.int .i64 (y.length : Int), .int .i64 (z.length : Int)] rfl zL ?_; (with_reducible refine (cmp_Compare_int.calls (y.length : Int) (z.length : Int) l _ A3.out).mono ?_); rintro e w' ⟨rfl, ⟨nd, rfl⟩⟩; refine ⟨_, rfl, ?_⟩) | ((with_reducible refine gc 56 rfl ?_); refine zF 12 Try.func56 #[.slice A0 y.length c0, .slice A1 z.length c1] rfl zL ?_; refine (slices_Compare_int_int.calls k _ _ y _ _ z q _ (zC i0.out) j0.out (zC m0.out) n0.out A4.out).mono ?_; rintro e w' ⟨rfl, ⟨nd, rfl⟩⟩; refine ⟨_, rfl, ?_⟩) | ((with_reducible refine gd 13 rfl ?_); refine Kd.R_lit (Kd.int .i64) _ 3 ?hg (N := 13) ?hd (xs := ([l, q] : List Int)) (inner := [.int .i64 l, .int .i64 q]) (ok := fun _ => True) (okp := fun _ => True) ?hr ?hp (fun _ hk => hk) trivial (Below.refl _ _) (Nat.le_refl _) (by simp) ?_; (case hd => rfl); (case hg => rfl); (case hr => first | (go_simp; done) | (go_simp; rfl)); (case hp => exact (Reps.one (show Kd.M (Kd.int .i64) _ _ _ l [.int .i64 l] from rfl) (Reps.one (show Kd.M (Kd.int .i64) _ _ _ q [.int .i64 q] from rfl) (Reps.none _ _)))); intro v215 w6 E hb hg_ hnew_; clear hg_ hnew_; (first | rw [← Ny214.out] at E | (simp only [Int.reduceToNat] at E; rw [← Ny214.out] at E)); have o0 := zK (Kd.R_lower E (zz zB)); have p0 := z8 hb; revert o0 p0; clear HB; intro B HB; clear hb E; obtain ⟨q0, s0, t0⟩ := Kd.R_slice B.out; subst t0) | ((with_reducible refine gc 54 rfl ?_); refine zF 14 Try.func54 #[.slice q0 I.length s0] rfl zL ?_; refine (cmp_Or_int.calls k _ _ I A _ (zC (Kd.R_reads' B.out).2.2) ((Kd.R_reads' B.out).2.1) A5.out).mono ?_; rintro e w' ⟨rfl, ⟨nd, rfl⟩⟩; refine ⟨_, rfl, ?_⟩))
 go_ret
 exact ⟨zE, zB⟩
end Go.Proofs.Ytdlhmhgpafegpaa.PFnExactWeights
