-- Printed out of the translation by this session's own turned copy of a printer; Lean checks it.
import Derived.Test.YtdlhmhgpafegpaaPFnExactPagesOfx0
import Derived.Test.YtdlhmhgpafegpaaPFnExactPagesOfx2
namespace Go.Proofs.Ytdlhmhgpafegpaa.PFnExactPagesOf
open Go.RowKit Go.Proofs.YtdlhmhgpafegpaaW.PrintWords Go.Proofs.YtdlhmhgpafegpaaW.PrintLast Go.Proofs.YtdlhmhgpafegpaaW.PrintMore
attribute [local go_sem] max2_int min2_int max_two min_two max_three min_three max_four min_four
set_option linter.unusedVariables false
set_option linter.unusedSimpArgs false
set_option maxHeartbeats 8000000
set_option maxRecDepth 100000
def laws_eqHouse.f (k : Nat) (l : Int) (q : List (S57)) (u : Int) (y : Int) (z : Int) (A : Int) (B : Int) (E : Int) (I : Int) (J : List (S57)) (L : Int) (M : Int) (O : Int) (T : Int) (U : Int) (X : Int) : Option (Bool) := (laws_eqLm.f k l q I J).bind fun a0 => (if a0 = true then ((laws_eqChoice.f u y z L M O).bind fun b0 => (if b0 = true then (if A = T then (if B = U then (if E = X then (some true) else (some false)) else (some false)) else (some false)) else (some false))) else (some false))
theorem laws_eqHouse.calls (k) (z) (f0) (g0) (u : List (S57)) (A) (B) (E) (O) (T) (U) (I) (i0) (j0) (y : List (S57)) (J) (L) (M) (X) (a0) (b0) (r : Bool) (w) (t0 : Kd.C k57 w f0 u.length u) (x0 : u.length ≤ g0) (y0 : Kd.C k57 w i0 y.length y) (A0 : y.length ≤ j0) (h : laws_eqHouse.f k z u A B E O T U I y J L M X a0 b0 = some r) :
 Calls Try.prog 16 #[.agg #[.int .i64 z, .slice f0 u.length g0, .int .i64 A, .int .i64 B, .int .i64 E, .int .i64 O, .int .i64 T, .int .i64 U], .agg #[.int .i64 I, .slice i0 y.length j0, .int .i64 J, .int .i64 L, .int .i64 M, .int .i64 X, .int .i64 a0, .int .i64 b0]] w fun e w' => e = .returned (.bool r) ∧ Below w.heap.size w w' := by
 have N3 := Try.underlying41
 have O3 := Try.underlying29
 have R3 := Try.underlying39
 have E0 := zK t0
 have F0 := zK x0
 clear t0 x0
 have G0 := zK y0
 have I0 := zK A0
 clear y0 A0
 have HB := zK (Below.refl w.heap.size w)
 have H : ((laws_eqLm.f k z u I y).bind fun q0 => (if q0 = true then ((laws_eqChoice.f A B E J L M).bind fun s0 => (if s0 = true then (if O = X then (if T = a0 then (if U = b0 then (some true) else (some false)) else (some false)) else (some false)) else (some false))) else (some false))) = some r := h
 clear h
 replace H := z6 H
 obtain ⟨q0, J0, H⟩ := H
 have A3 := zK J0
 clear J0
 rcases zN (q0 = true) with c4 | c4
 replace c4 := Bool.eq_false_iff.mpr c4
 subst c4
 rw [if_neg (show ¬ (false = true) by decide)] at H
 obtain rfl := z5 H
 rotate_left
 subst c4
 rw [if_pos rfl] at H
 replace H := z6 H
 obtain ⟨s0, L0, H⟩ := H
 have A5 := zK L0
 clear L0
 rcases zN (s0 = true) with c6 | c6
 replace c6 := Bool.eq_false_iff.mpr c6
 subst c6
 rw [if_neg (show ¬ (false = true) by decide)] at H
 obtain rfl := z5 H
 rotate_left
 subst c6
 rw [if_pos rfl] at H
 rcases zN (O = X) with c7 | c7
 rw [if_neg c7] at H
 have M0 := beq_eq_false_iff_ne.mpr c7
 have N0 := bne_iff_ne.mpr c7
 obtain rfl := z5 H
 rotate_left
 rw [if_pos c7] at H
 have M0 := beq_iff_eq.mpr c7
 have N0 := bne_eq_false_iff_eq.mpr c7
 clear c7
 rcases zN (T = a0) with c8 | c8
 rw [if_neg c8] at H
 have O0 := beq_eq_false_iff_ne.mpr c8
 have R0 := bne_iff_ne.mpr c8
 obtain rfl := z5 H
 rotate_left
 rw [if_pos c8] at H
 have O0 := beq_iff_eq.mpr c8
 have R0 := bne_eq_false_iff_eq.mpr c8
 clear c8
 rcases zN (U = b0) with c9 | c9
 rw [if_neg c9] at H
 have S0 := beq_eq_false_iff_ne.mpr c9
 have T0 := bne_iff_ne.mpr c9
 obtain rfl := z5 H
 rotate_left
 rw [if_pos c9] at H
 have S0 := beq_iff_eq.mpr c9
 have T0 := bne_eq_false_iff_eq.mpr c9
 clear c9
 obtain rfl := z5 H
 all_goals go_enter Try.func16, Try.ntmps16
 all_goals go_wp2_with (first | ((with_reducible refine gd 2 rfl ?_); refine zJ 2 #[.int .i64 z, .slice f0 u.length g0, .int .i64 A, .int .i64 B, .int .i64 E, .int .i64 O, .int .i64 T, .int .i64 U] 41 ?_; intro D3 hg U3 hbox hb; have c0 := z8 hb; have d0 := zK (hbox); have e0 := z9 hg; have D0 := z9 hg; revert c0 d0 e0 D0; clear HB; intro HB l E3 F3; clear hb hbox hg) | ((with_reducible refine gd 3 rfl ?_); refine zJ 3 #[.int .i64 I, .slice i0 y.length j0, .int .i64 J, .int .i64 L, .int .i64 M, .int .i64 X, .int .i64 a0, .int .i64 b0] 41 ?_; intro G3 hg V3 hbox hb; have c0 := z7 l hb; have d0 := z8 hb; have e0 := zK (hbox); have D0 := z9 hg; have y3 := z9 hg; have B3 := zHH hg l; have C3 := zGG hg l; revert c0 d0 e0 D0 y3 B3 C3; clear l HB; intro l HB q I3 J3 o0 p0; clear hb hbox hg; have L3 := o0.out; have M3 := p0.out; obtain ⟨U0, V0, X0, a1, b1, c1, d1, e1, f1, g1, i1, j1, l1, m1, n1, o1⟩ := zc8 l; obtain ⟨p1, q1, s1, t1, x1, y1, A1, B1, C1, D1, E1, F1, G1, I1, J1, L1⟩ := zc8 q) | ((with_reducible refine gc 11 rfl ?_); refine zF 9 Try.func11 #[.agg #[.int .i64 z, .slice f0 u.length g0], .agg #[.int .i64 I, .slice i0 y.length j0]] rfl zL ?_; refine (laws_eqLm.calls k z _ _ u I _ _ y _ _ (zS E0) F0.out (zS G0) I0.out A3.out).mono ?_; rintro e X3 ⟨rfl, hb⟩; refine ⟨_, rfl, ?_⟩; have c0 := z7 l hb; have d0 := z7 q hb; have e0 := z8 hb; revert c0 d0 e0; clear l q HB; intro l q HB; obtain ⟨M1, N1, O1, R1, S1, T1, U1, V1, X1, a2, b2, c2, d2, e2, f2, g2⟩ := zc8 l; obtain ⟨i2, j2, l2, m2, n2, o2, p2, q2, s2, t2, x2, y2, A2, B2, C2, D2⟩ := zc8 q) | ((with_reducible refine gc 41 rfl ?_); refine zF 15 Try.func41 #[.agg #[.int .i64 A, .int .i64 B, .int .i64 E], .agg #[.int .i64 J, .int .i64 L, .int .i64 M]] rfl zL ?_; (with_reducible refine (laws_eqChoice.calls A B E J L M _ _ A5.out).mono ?_); rintro e a4 ⟨rfl, hb⟩; refine ⟨_, rfl, ?_⟩; have c0 := z7 l hb; have d0 := z7 q hb; have e0 := z8 hb; revert c0 d0 e0; clear l q HB; intro l q HB; obtain ⟨E2, F2, G2, I2, J2, L2, M2, N2, O2, R2, T2, U2, V2, X2, a3, b3⟩ := zc8 l; obtain ⟨c3, d3, e3, f3, g3, i3, j3, l3, m3, n3, o3, p3, q3, s3, t3, x3⟩ := zc8 q))
 all_goals go_ret
 all_goals exact ⟨zE, zB⟩
def spec_l5In.f (l : Int) (q : Int) (u : Int) : Option (Bool) := if l ≥ q then (some (decide (l ≤ u))) else (some false)
theorem spec_l5In.calls (q) (u) (y) (r : Bool) (w) (h : spec_l5In.f q u y = some r) :
 Calls Try.prog 27 #[.int .i64 q, .int .i64 u, .int .i64 y] w fun e w' => e = .returned (.bool r) ∧ Drawn0 w w' := by
 have H : (if q ≥ u then (some (decide (q ≤ y))) else (some false)) = some r := h
 clear h
 by_cases l : q ≥ u
 · rw [if_pos l] at H
   have z := z1 l
   clear l
   obtain rfl := z5 H
   go_enter Try.func27, Try.ntmps27
   go_wp2
   go_ret
   exact ⟨zR, zD⟩
 rw [if_neg l] at H
 have z := z2 l
 clear l
 obtain rfl := z5 H
 go_enter Try.func27, Try.ntmps27
 go_wp2
 go_ret
 exact ⟨zR, zD⟩
def spec_l21Tokens.l0 : Nat → List Int → Int → Int → Option (Bool)
 | 0, _, _, _ => none
 | k + 1, q, y, l => if l < (q.length : Int) then (if 0 ≤ l then ((spec_l5In.f (rd q l) 0 (wrap64 (y - 1))).bind fun u => (if u = true then (spec_l21Tokens.l0 k q y (wrap64 (l + 1))) else (some false))) else (none)) else (some true)
def spec_l21Tokens.f (k : Nat) (l : List Int) (q : Int) : Option (Bool) := spec_l21Tokens.l0 k l q 0
theorem spec_l21Tokens.calls (k) (A0) (c0) (y : List Int) (z) (r : Bool) (w) (M : Kd.C (Kd.int .i64) w A0 y.length y) (O : y.length ≤ c0) (h : spec_l21Tokens.f k y z = some r) :
 Calls Try.prog 28 #[.slice A0 y.length c0, .int .i64 z] w fun e w' => e = .returned (.bool r) ∧ Drawn0 w w' := by
 have T := zK M
 have i0 := zK O
 clear M O
 have H : (spec_l21Tokens.l0 k y z 0) = some r := h
 clear h
 have H' := zK H
 clear H
 go_enter Try.func28, Try.ntmps28
 go_wp2
 go_loopg [5] k (fun kq v5 w' => ∃ (l : Int), v5 = .int .i64 l ∧ Aside0 (spec_l21Tokens.l0 kq y z l = some r) ∧ Aside0 (kq ≤ k) ∧ Drawn0 w w')
 case atStart => exact ⟨(0), zR, H', ⟨Nat.le_refl _⟩, zD⟩
 clear H'
 try clear c2
 try clear p2
 obtain ⟨l, rfl, HA, U, ⟨m1, rfl⟩⟩ := hrel
 rcases gk with _ | k1
 · exact absurd HA.out (by simp [spec_l21Tokens.l0])
 have H := HA.out
 clear HA
 simp only [spec_l21Tokens.l0] at H
 by_cases B : l < (y.length : Int)
 rotate_left
 · rw [if_neg B] at H
   have a0 := z2 B
   clear B
   obtain rfl := z5 H
   go_wp2
   go_ret
   exact ⟨zR, zD⟩
 rw [if_pos B] at H
 have a0 := z1 B
 clear B
 by_cases I : 0 ≤ l
 rotate_left
 · rw [if_neg I] at H
   exact absurd H (by simp)
 rw [if_pos I] at H
 have g0 := z1 I
 clear I
 replace H := z6 H
 obtain ⟨b0, X, H⟩ := H
 have A5 := zK X
 clear X
 by_cases J : b0 = true
 rotate_left
 · replace J := Bool.eq_false_iff.mpr J
   subst J
   rw [if_neg (show ¬ (false = true) by decide)] at H
   obtain rfl := z5 H
   have q : 0 ≤ (l : Int) := z3
   have u : l < (y.length : Int) := z3
   obtain ⟨L, A, E⟩ := Kd.at_int T.out l q u
   cases A
   replace q := eq_true q
   replace u := eq_true u
   go_wp2_with (first | ((with_reducible refine gc 27 rfl ?_); refine zF 18 Try.func27 #[.int .i64 (rd y l), .int .i64 0, .int .i64 (wrap64 (z - 1))] rfl zL ?_; (with_reducible refine (spec_l5In.calls (rd y l) 0 (wrap64 (z - 1)) false _ A5.out).mono ?_); rintro e w' ⟨rfl, ⟨nd, rfl⟩⟩; refine ⟨_, rfl, ?_⟩))
   go_ret
   exact ⟨zR, zD⟩
 subst J
 rw [if_pos rfl] at H
 have H' := zK H
 clear H
 have q : 0 ≤ (l : Int) := z3
 have u : l < (y.length : Int) := z3
 obtain ⟨L, A, E⟩ := Kd.at_int T.out l q u
 cases A
 replace q := eq_true q
 replace u := eq_true u
 go_wp2_with (first | ((with_reducible refine gc 27 rfl ?_); refine zF 18 Try.func27 #[.int .i64 (rd y l), .int .i64 0, .int .i64 (wrap64 (z - 1))] rfl zL ?_; (with_reducible refine (spec_l5In.calls (rd y l) 0 (wrap64 (z - 1)) true _ A5.out).mono ?_); rintro e w' ⟨rfl, ⟨nd, rfl⟩⟩; refine ⟨_, rfl, ?_⟩))
 go_roundg k1
 case measure => have := U.out; omega
 case rel => exact ⟨(wrap64 (l + 1)), zR, H', ⟨by have := U.out; omega⟩, zD⟩
def spec_l21Sum.l0 : Nat → List Int → Int → Int → Option (Int)
 | 0, _, _, _ => none
 | k + 1, q, u, l => if l < (q.length : Int) then (if 0 ≤ l then (spec_l21Sum.l0 k q (wrap64 (u + (rd q l))) (wrap64 (l + 1))) else (none)) else (some u)
def spec_l21Sum.f (k : Nat) (l : List Int) : Option (Int) := spec_l21Sum.l0 k l 0 0
theorem spec_l21Sum.calls (k) (T) (U) (q : List Int) (r) (w) (E : Kd.C (Kd.int .i64) w T q.length q) (I : q.length ≤ U) (h : spec_l21Sum.f k q = some r) :
 Calls Try.prog 49 #[.slice T q.length U] w fun e w' => e = .returned (.int .i64 r) ∧ Drawn0 w w' := by
 have X := zK E
 have d0 := zK I
 clear E I
 have H : (spec_l21Sum.l0 k q 0 0) = some r := h
 clear h
 have H' := zK H
 clear H
 go_enter Try.func49, Try.ntmps49
 go_wp2
 go_loopg [3, 4] k (fun kq v3 v4 w' => ∃ (u : Int) (l : Int), v3 = .int .i64 u ∧ v4 = .int .i64 l ∧ Aside0 (spec_l21Sum.l0 kq q u l = some r) ∧ Aside0 (kq ≤ k) ∧ Drawn0 w w')
 case atStart => exact ⟨(0), (0), zR, zR, H', ⟨Nat.le_refl _⟩, zD⟩
 clear H'
 obtain ⟨u, l, rfl, rfl, HA, J, ⟨m1, rfl⟩⟩ := hrel
 rcases gk with _ | k1
 · exact absurd HA.out (by simp [spec_l21Sum.l0])
 have H := HA.out
 clear HA
 simp only [spec_l21Sum.l0] at H
 by_cases A : l < (q.length : Int)
 rotate_left
 · rw [if_neg A] at H
   have L := z2 A
   clear A
   obtain rfl := z5 H
   go_wp2
   go_ret
   exact ⟨zR, zD⟩
 rw [if_pos A] at H
 have L := z1 A
 clear A
 by_cases B : 0 ≤ l
 rotate_left
 · rw [if_neg B] at H
   exact absurd H (by simp)
 rw [if_pos B] at H
 have b0 := z1 B
 clear B
 have H' := zK H
 clear H
 have y : 0 ≤ (l : Int) := z3
 have z : l < (q.length : Int) := z3
 obtain ⟨a0, M, O⟩ := Kd.at_int X.out l y z
 cases M
 replace y := eq_true y
 replace z := eq_true z
 go_wp2
 go_roundg k1
 case measure => have := J.out; omega
 case rel => exact ⟨(wrap64 (u + (rd q l))), (wrap64 (l + 1)), zR, zR, H', ⟨by have := J.out; omega⟩, zD⟩
def spec_l21Weights.l0 : Nat → List Int → Int → Option (Bool)
 | 0, _, _ => none
 | k + 1, l, q => if q < (l.length : Int) then (if 0 ≤ q then ((spec_l5In.f (rd l q) 0 1000).bind fun u => (if u = true then (spec_l21Weights.l0 k l (wrap64 (q + 1))) else (some false))) else (none)) else ((spec_l21Sum.f k l).bind fun y => (some (decide (y > 0))))
def spec_l21Weights.f (k : Nat) (l : List Int) : Option (Bool) := spec_l21Weights.l0 k l 0
theorem spec_l21Weights.calls (k) (A0) (c0) (q : List Int) (r : Bool) (w) (M : Kd.C (Kd.int .i64) w A0 q.length q) (O : q.length ≤ c0) (h : spec_l21Weights.f k q = some r) :
 Calls Try.prog 29 #[.slice A0 q.length c0] w fun e w' => e = .returned (.bool r) ∧ Drawn0 w w' := by
 have E := zK M
 have g0 := zK O
 clear M O
 have H : (spec_l21Weights.l0 k q 0) = some r := h
 clear h
 have H' := zK H
 clear H
 go_enter Try.func29, Try.ntmps29
 go_wp2
 go_loopg [3] k (fun kq v3 w' => ∃ (l : Int), v3 = .int .i64 l ∧ Aside0 (spec_l21Weights.l0 kq q l = some r) ∧ Aside0 (kq ≤ k) ∧ Drawn0 w w')
 case atStart => exact ⟨(0), zR, H', ⟨Nat.le_refl _⟩, zD⟩
 clear H'
 obtain ⟨l, rfl, HA, T, ⟨m1, rfl⟩⟩ := hrel
 rcases gk with _ | k1
 · exact absurd HA.out (by simp [spec_l21Weights.l0])
 have H := HA.out
 clear HA
 simp only [spec_l21Weights.l0] at H
 by_cases A : l < (q.length : Int)
 rotate_left
 · rw [if_neg A] at H
   have d0 := z2 A
   clear A
   replace H := z6 H
   obtain ⟨e0, U, H⟩ := H
   have A6 := zK U
   clear U
   obtain rfl := z5 H
   go_wp2_with (first | ((with_reducible refine gc 49 rfl ?_); refine zF 17 Try.func49 #[.slice A0 q.length c0] rfl zL ?_; refine (spec_l21Sum.calls k1 _ _ q e0 _ (zC E.out) g0.out A6.out).mono ?_; rintro e w' ⟨rfl, ⟨nd, rfl⟩⟩; refine ⟨_, rfl, ?_⟩))
   go_ret
   exact ⟨zR, zD⟩
 rw [if_pos A] at H
 have d0 := z1 A
 clear A
 by_cases I : 0 ≤ l
 rotate_left
 · rw [if_neg I] at H
   exact absurd H (by simp)
 rw [if_pos I] at H
 have m0 := z1 I
 clear I
 replace H := z6 H
 obtain ⟨f0, X, H⟩ := H
 have A4 := zK X
 clear X
 by_cases J : f0 = true
 rotate_left
 · replace J := Bool.eq_false_iff.mpr J
   subst J
   rw [if_neg (show ¬ (false = true) by decide)] at H
   obtain rfl := z5 H
   have u : 0 ≤ (l : Int) := z3
   have y : l < (q.length : Int) := z3
   obtain ⟨L, z, B⟩ := Kd.at_int E.out l u y
   cases z
   replace u := eq_true u
   replace y := eq_true y
   go_wp2_with (first | ((with_reducible refine gc 27 rfl ?_); refine zF 14 Try.func27 #[.int .i64 (rd q l), .int .i64 0, .int .i64 1000] rfl zL ?_; (with_reducible refine (spec_l5In.calls (rd q l) 0 1000 false _ A4.out).mono ?_); rintro e w' ⟨rfl, ⟨nd, rfl⟩⟩; refine ⟨_, rfl, ?_⟩))
   go_ret
   exact ⟨zR, zD⟩
 subst J
 rw [if_pos rfl] at H
 have H' := zK H
 clear H
 have u : 0 ≤ (l : Int) := z3
 have y : l < (q.length : Int) := z3
 obtain ⟨L, z, B⟩ := Kd.at_int E.out l u y
 cases z
 replace u := eq_true u
 replace y := eq_true y
 go_wp2_with (first | ((with_reducible refine gc 27 rfl ?_); refine zF 14 Try.func27 #[.int .i64 (rd q l), .int .i64 0, .int .i64 1000] rfl zL ?_; (with_reducible refine (spec_l5In.calls (rd q l) 0 1000 true _ A4.out).mono ?_); rintro e w' ⟨rfl, ⟨nd, rfl⟩⟩; refine ⟨_, rfl, ?_⟩))
 go_roundg k1
 case measure => have := T.out; omega
 case rel => exact ⟨(wrap64 (l + 1)), zR, H', ⟨by have := T.out; omega⟩, zD⟩
def spec_l3SameInts.l0 : Nat → List Int → List Int → Int → Option (Bool)
 | 0, _, _, _ => none
 | k + 1, q, u, l => if l < (q.length : Int) then (if 0 ≤ l then (if l < (u.length : Int) then (if (rd q l) = (rd u l) then (spec_l3SameInts.l0 k q u (wrap64 (l + 1))) else (some false)) else (none)) else (none)) else (some true)
def spec_l3SameInts.f (k : Nat) (l : List Int) (q : List Int) : Option (Bool) := if (l.length : Int) = (q.length : Int) then (spec_l3SameInts.l0 k l q 0) else (some false)
theorem spec_l3SameInts.calls (k) (A0) (c0) (q : List Int) (A1) (c1) (u : List Int) (r : Bool) (w) (g0 : Kd.C (Kd.int .i64) w A0 q.length q) (i0 : q.length ≤ c0) (j0 : Kd.C (Kd.int .i64) w A1 u.length u) (m0 : u.length ≤ c1) (h : spec_l3SameInts.f k q u = some r) :
 Calls Try.prog 30 #[.slice A0 q.length c0, .slice A1 u.length c1] w fun e w' => e = .returned (.bool r) ∧ Drawn0 w w' := by
 have n0 := zK g0
 have F0 := zK i0
 clear g0 i0
 have o0 := zK j0
 have G0 := zK m0
 clear j0 m0
 have H : (if (q.length : Int) = (u.length : Int) then (spec_l3SameInts.l0 k q u 0) else (some false)) = some r := h
 clear h
 by_cases E : (q.length : Int) = (u.length : Int)
 rotate_left
 · rw [if_neg E] at H
   have U := beq_eq_false_iff_ne.mpr E
   have X := bne_iff_ne.mpr E
   have a0 : (q.length == u.length) = false := by first | simpa using E | (simp at E ⊢; omega)
   obtain rfl := z5 H
   go_enter Try.func30, Try.ntmps30
   go_wp2
   repeat (go_quiet (fail); try go_wp2)
   go_ret
   exact ⟨zR, zD⟩
 rw [if_pos E] at H
 have U := beq_iff_eq.mpr E
 have X := bne_eq_false_iff_eq.mpr E
 have a0 : (q.length == u.length) = true := by first | simpa using E | (simp at E ⊢; omega)
 clear E
 have H' := zK H
 clear H
 go_enter Try.func30, Try.ntmps30
 go_wp2
 repeat (go_quiet (fail); try go_wp2)
 go_loopg [5] k (fun kq v5 w' => ∃ (l : Int), v5 = .int .i64 l ∧ Aside0 (spec_l3SameInts.l0 kq q u l = some r) ∧ Aside0 (kq ≤ k) ∧ Drawn0 w w')
 case atStart => exact ⟨(0), zR, H', ⟨Nat.le_refl _⟩, zD⟩
 clear H'
 try clear c1
 try clear p2
 try clear E
 try clear U
 try clear X
 try clear a0
 obtain ⟨l, rfl, HA, p0, ⟨m1, rfl⟩⟩ := hrel
 rcases gk with _ | k1
 · exact absurd HA.out (by simp [spec_l3SameInts.l0])
 have H := HA.out
 clear HA
 simp only [spec_l3SameInts.l0] at H
 by_cases M : l < (q.length : Int)
 rotate_left
 · rw [if_neg M] at H
   have s0 := z2 M
   clear M
   obtain rfl := z5 H
   go_wp2
   repeat (go_quiet (fail); try go_wp2)
   go_ret
   exact ⟨zR, zD⟩
 rw [if_pos M] at H
 have s0 := z1 M
 clear M
 by_cases c5 : 0 ≤ l
 rotate_left
 · rw [if_neg c5] at H
   exact absurd H (by simp)
 rw [if_pos c5] at H
 have D0 := z1 c5
 clear c5
 by_cases c6 : l < (u.length : Int)
 rotate_left
 · rw [if_neg c6] at H
   exact absurd H (by simp)
 rw [if_pos c6] at H
 have E0 := z1 c6
 clear c6
 by_cases I : (rd q l) = (rd u l)
 rotate_left
 · rw [if_neg I] at H
   have t0 := beq_eq_false_iff_ne.mpr I
   have x0 := bne_iff_ne.mpr I
   obtain rfl := z5 H
   have y : 0 ≤ (l : Int) := z3
   have z : l < (q.length : Int) := z3
   obtain ⟨e0, J, O⟩ := Kd.at_int n0.out l y z
   cases J
   replace y := eq_true y
   replace z := eq_true z
   have A : 0 ≤ (l : Int) := z3
   have B : l < (u.length : Int) := z3
   obtain ⟨f0, L, T⟩ := Kd.at_int o0.out l A B
   cases L
   replace A := eq_true A
   replace B := eq_true B
   go_wp2
   repeat (go_quiet (fail); try go_wp2)
   go_ret
   exact ⟨zR, zD⟩
 rw [if_pos I] at H
 have t0 := beq_iff_eq.mpr I
 have x0 := bne_eq_false_iff_eq.mpr I
 clear I
 have H' := zK H
 clear H
 have y : 0 ≤ (l : Int) := z3
 have z : l < (q.length : Int) := z3
 obtain ⟨e0, J, O⟩ := Kd.at_int n0.out l y z
 cases J
 replace y := eq_true y
 replace z := eq_true z
 have A : 0 ≤ (l : Int) := z3
 have B : l < (u.length : Int) := z3
 obtain ⟨f0, L, T⟩ := Kd.at_int o0.out l A B
 cases L
 replace A := eq_true A
 replace B := eq_true B
 go_wp2
 repeat (go_quiet (fail); try go_wp2)
 go_roundg k1
 case measure => have := p0.out; omega
 case rel => exact ⟨(wrap64 (l + 1)), zR, H', ⟨by have := p0.out; omega⟩, zD⟩
end Go.Proofs.Ytdlhmhgpafegpaa.PFnExactPagesOf
