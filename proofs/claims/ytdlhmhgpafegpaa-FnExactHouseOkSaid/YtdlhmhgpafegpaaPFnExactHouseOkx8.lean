-- Printed out of the translation by this session's own turned copy of a printer; Lean checks it.
import Derived.Test.YtdlhmhgpafegpaaPFnExactHouseOkx0
import Derived.Test.YtdlhmhgpafegpaaPFnExactHouseOkx1
import Derived.Test.YtdlhmhgpafegpaaPFnExactHouseOkx2
import Derived.Test.YtdlhmhgpafegpaaPFnExactHouseOkx3
import Derived.Test.YtdlhmhgpafegpaaPFnExactHouseOkx7
namespace Go.Proofs.Ytdlhmhgpafegpaa.PFnExactHouseOk
open Go.RowKit Go.Proofs.YtdlhmhgpafegpaaW.PrintWords Go.Proofs.YtdlhmhgpafegpaaW.PrintLast Go.Proofs.YtdlhmhgpafegpaaW.PrintMore
attribute [local go_sem] max2_int min2_int max_two min_two max_three min_three max_four min_four
set_option linter.unusedVariables false
set_option linter.unusedSimpArgs false
set_option maxHeartbeats 8000000
set_option maxRecDepth 100000
def laws_eqLm.f (k : Nat) (l : Int) (q : List (S57)) (u : Int) (y : List (S57)) : Option (Bool) := if l = u then ((laws_eqRowS.f k q y).bind fun z => (if z = true then (some true) else (some false))) else (some false)
theorem laws_eqLm.calls (k) (z) (B) (E) (q : List (S57)) (A) (I) (J) (u : List (S57)) (r : Bool) (w) (b0 : Kd.C k57 w B q.length q) (c0 : q.length ≤ E) (d0 : Kd.C k57 w I u.length u) (e0 : u.length ≤ J) (h : laws_eqLm.f k z q A u = some r) :
 Calls Try.prog 11 #[.agg #[.int .i64 z, .slice B q.length E], .agg #[.int .i64 A, .slice I u.length J]] w fun e w' => e = .returned (.bool r) ∧ Below w.heap.size w w' := by
 have S0 := Try.underlying29
 have g0 := zK b0
 have i0 := zK c0
 clear b0 c0
 have j0 := zK d0
 have l0 := zK e0
 clear d0 e0
 have HB := zK (Below.refl w.heap.size w)
 have H : (if z = A then ((laws_eqRowS.f k q u).bind fun a0 => (if a0 = true then (some true) else (some false))) else (some false)) = some r := h
 clear h
 rcases zN (z = A) with L | L
 rw [if_neg L] at H
 have o0 := beq_eq_false_iff_ne.mpr L
 have p0 := bne_iff_ne.mpr L
 obtain rfl := z5 H
 rotate_left
 rw [if_pos L] at H
 have o0 := beq_iff_eq.mpr L
 have p0 := bne_eq_false_iff_eq.mpr L
 clear L
 replace H := z6 H
 obtain ⟨a0, n0, H⟩ := H
 have A4 := zK n0
 clear n0
 by_cases c5 : a0 = true
 subst c5
 rw [if_pos rfl] at H
 obtain rfl := z5 H
 rotate_left
 replace c5 := Bool.eq_false_iff.mpr c5
 subst c5
 rw [if_neg (show ¬ (false = true) by decide)] at H
 obtain rfl := z5 H
 all_goals go_enter Try.func11, Try.ntmps11
 all_goals go_wp2_with (first | ((with_reducible refine gd 2 rfl ?_); refine zJ 2 #[.int .i64 z, .slice B q.length E] 29 ?_; intro G0 hg U0 hbox hb; have M := z8 hb; have O := zK (hbox); have T := z9 hg; have f0 := z9 hg; revert M O T f0; clear HB; intro HB l I0 J0; clear hb hbox hg) | ((with_reducible refine gd 3 rfl ?_); refine zJ 3 #[.int .i64 A, .slice I u.length J] 29 ?_; intro L0 hg V0 hbox hb; have M := z7 l hb; have O := z8 hb; have T := zK (hbox); have f0 := z9 hg; have D0 := z9 hg; have E0 := zHH hg l; have F0 := zGG hg l; revert M O T f0 D0 E0 F0; clear l HB; intro l HB y M0 N0 U X; clear hb hbox hg; have O0 := U.out; have R0 := X.out; obtain ⟨q0, s0, t0, x0⟩ := zc2 l; obtain ⟨y0, A0, B0, C0⟩ := zc2 y) | ((with_reducible refine gc 37 rfl ?_); refine zF 14 Try.func37 #[.slice B q.length E, .slice I u.length J] rfl zL ?_; refine (laws_eqRowS.calls k _ _ q _ _ u _ _ (zS g0) i0.out (zS j0) l0.out A4.out).mono ?_; rintro e X0 ⟨rfl, hb⟩; refine ⟨_, rfl, ?_⟩; have M := z7 l hb; have O := z7 y hb; have T := z8 hb; revert M O T; clear l y HB; intro l y HB))
 all_goals go_ret
 all_goals exact ⟨zE, zB⟩
def laws_eqChoice.f (l : Int) (q : Int) (u : Int) (y : Int) (z : Int) (A : Int) : Option (Bool) := if l = y then (if q = z then (if u = A then (some true) else (some false)) else (some false)) else (some false)
theorem laws_eqChoice.calls (q) (u) (y) (z) (A) (B) (r : Bool) (w) (h : laws_eqChoice.f q u y z A B = some r) :
 Calls Try.prog 41 #[.agg #[.int .i64 q, .int .i64 u, .int .i64 y], .agg #[.int .i64 z, .int .i64 A, .int .i64 B]] w fun e w' => e = .returned (.bool r) ∧ Below w.heap.size w w' := by
 have N0 := Try.underlying39
 have HB := zK (Below.refl w.heap.size w)
 have H : (if q = z then (if u = A then (if y = B then (some true) else (some false)) else (some false)) else (some false)) = some r := h
 clear h
 rcases zN (q = z) with E | E
 rw [if_neg E] at H
 have b0 := beq_eq_false_iff_ne.mpr E
 have c0 := bne_iff_ne.mpr E
 obtain rfl := z5 H
 rotate_left
 rw [if_pos E] at H
 have b0 := beq_iff_eq.mpr E
 have c0 := bne_eq_false_iff_eq.mpr E
 clear E
 rcases zN (u = A) with I | I
 rw [if_neg I] at H
 have d0 := beq_eq_false_iff_ne.mpr I
 have e0 := bne_iff_ne.mpr I
 obtain rfl := z5 H
 rotate_left
 rw [if_pos I] at H
 have d0 := beq_iff_eq.mpr I
 have e0 := bne_eq_false_iff_eq.mpr I
 clear I
 by_cases M : y = B
 rw [if_pos M] at H
 have f0 := beq_iff_eq.mpr M
 have g0 := bne_eq_false_iff_eq.mpr M
 clear M
 obtain rfl := z5 H
 rotate_left
 rw [if_neg M] at H
 have f0 := beq_eq_false_iff_ne.mpr M
 have g0 := bne_iff_ne.mpr M
 obtain rfl := z5 H
 all_goals go_enter Try.func41, Try.ntmps41
 all_goals go_wp2_with (first | ((with_reducible refine gd 2 rfl ?_); refine zJ 2 #[.int .i64 q, .int .i64 u, .int .i64 y] 39 ?_; intro D0 hg O0 hbox hb; have O := z8 hb; have T := zK (hbox); have U := z9 hg; have X := z9 hg; revert O T U X; clear HB; intro HB l E0 F0; clear hb hbox hg) | ((with_reducible refine gd 3 rfl ?_); refine zJ 3 #[.int .i64 z, .int .i64 A, .int .i64 B] 39 ?_; intro G0 hg R0 hbox hb; have O := z7 l hb; have T := z8 hb; have U := zK (hbox); have X := z9 hg; have A0 := z9 hg; have B0 := zHH hg l; have C0 := zGG hg l; revert O T U X A0 B0 C0; clear l HB; intro l HB a0 I0 J0 J L; clear hb hbox hg; have L0 := J.out; have M0 := L.out; obtain ⟨i0, j0, l0, m0, n0, o0⟩ := zc3 l; obtain ⟨p0, q0, s0, t0, x0, y0⟩ := zc3 a0))
 all_goals go_ret
 all_goals exact ⟨zE, zB⟩
def laws_eqHouse.f (k : Nat) (l : Int) (q : List (S57)) (u : Int) (y : Int) (z : Int) (A : Int) (B : Int) (E : Int) (I : Int) (J : List (S57)) (L : Int) (M : Int) (O : Int) (T : Int) (U : Int) (X : Int) : Option (Bool) := (laws_eqLm.f k l q I J).bind fun a0 => (if a0 = true then ((laws_eqChoice.f u y z L M O).bind fun b0 => (if b0 = true then (if A = T then (if B = U then (if E = X then (some true) else (some false)) else (some false)) else (some false)) else (some false))) else (some false))
theorem laws_eqHouse.calls (k) (z) (f0) (g0) (u : List (S57)) (A) (B) (E) (O) (T) (U) (I) (i0) (j0) (y : List (S57)) (J) (L) (M) (X) (a0) (b0) (r : Bool) (w) (t0 : Kd.C k57 w f0 u.length u) (x0 : u.length ≤ g0) (y0 : Kd.C k57 w i0 y.length y) (A0 : y.length ≤ j0) (h : laws_eqHouse.f k z u A B E O T U I y J L M X a0 b0 = some r) :
 Calls Try.prog 16 #[.agg #[.int .i64 z, .slice f0 u.length g0, .int .i64 A, .int .i64 B, .int .i64 E, .int .i64 O, .int .i64 T, .int .i64 U], .agg #[.int .i64 I, .slice i0 y.length j0, .int .i64 J, .int .i64 L, .int .i64 M, .int .i64 X, .int .i64 a0, .int .i64 b0]] w fun e w' => e = .returned (.bool r) ∧ Below w.heap.size w w' := by
 have N3 := Try.underlying41
 have O3 := Try.underlying29
 have R3 := Try.underlying39
 have E0 := zK t0
 have F0 := zK x0
 clear t0 x0
 have G0 := zK y0
 have I0 := zK A0
 clear y0 A0
 have HB := zK (Below.refl w.heap.size w)
 have H : ((laws_eqLm.f k z u I y).bind fun q0 => (if q0 = true then ((laws_eqChoice.f A B E J L M).bind fun s0 => (if s0 = true then (if O = X then (if T = a0 then (if U = b0 then (some true) else (some false)) else (some false)) else (some false)) else (some false))) else (some false))) = some r := h
 clear h
 replace H := z6 H
 obtain ⟨q0, J0, H⟩ := H
 have A3 := zK J0
 clear J0
 rcases zN (q0 = true) with c4 | c4
 replace c4 := Bool.eq_false_iff.mpr c4
 subst c4
 rw [if_neg (show ¬ (false = true) by decide)] at H
 obtain rfl := z5 H
 rotate_left
 subst c4
 rw [if_pos rfl] at H
 replace H := z6 H
 obtain ⟨s0, L0, H⟩ := H
 have A5 := zK L0
 clear L0
 rcases zN (s0 = true) with c6 | c6
 replace c6 := Bool.eq_false_iff.mpr c6
 subst c6
 rw [if_neg (show ¬ (false = true) by decide)] at H
 obtain rfl := z5 H
 rotate_left
 subst c6
 rw [if_pos rfl] at H
 rcases zN (O = X) with c7 | c7
 rw [if_neg c7] at H
 have M0 := beq_eq_false_iff_ne.mpr c7
 have N0 := bne_iff_ne.mpr c7
 obtain rfl := z5 H
 rotate_left
 rw [if_pos c7] at H
 have M0 := beq_iff_eq.mpr c7
 have N0 := bne_eq_false_iff_eq.mpr c7
 clear c7
 rcases zN (T = a0) with c8 | c8
 rw [if_neg c8] at H
 have O0 := beq_eq_false_iff_ne.mpr c8
 have R0 := bne_iff_ne.mpr c8
 obtain rfl := z5 H
 rotate_left
 rw [if_pos c8] at H
 have O0 := beq_iff_eq.mpr c8
 have R0 := bne_eq_false_iff_eq.mpr c8
 clear c8
 rcases zN (U = b0) with c9 | c9
 rw [if_neg c9] at H
 have S0 := beq_eq_false_iff_ne.mpr c9
 have T0 := bne_iff_ne.mpr c9
 obtain rfl := z5 H
 rotate_left
 rw [if_pos c9] at H
 have S0 := beq_iff_eq.mpr c9
 have T0 := bne_eq_false_iff_eq.mpr c9
 clear c9
 obtain rfl := z5 H
 all_goals go_enter Try.func16, Try.ntmps16
 all_goals go_wp2_with (first | ((with_reducible refine gd 2 rfl ?_); refine zJ 2 #[.int .i64 z, .slice f0 u.length g0, .int .i64 A, .int .i64 B, .int .i64 E, .int .i64 O, .int .i64 T, .int .i64 U] 41 ?_; intro D3 hg U3 hbox hb; have c0 := z8 hb; have d0 := zK (hbox); have e0 := z9 hg; have D0 := z9 hg; revert c0 d0 e0 D0; clear HB; intro HB l E3 F3; clear hb hbox hg) | ((with_reducible refine gd 3 rfl ?_); refine zJ 3 #[.int .i64 I, .slice i0 y.length j0, .int .i64 J, .int .i64 L, .int .i64 M, .int .i64 X, .int .i64 a0, .int .i64 b0] 41 ?_; intro G3 hg V3 hbox hb; have c0 := z7 l hb; have d0 := z8 hb; have e0 := zK (hbox); have D0 := z9 hg; have y3 := z9 hg; have B3 := zHH hg l; have C3 := zGG hg l; revert c0 d0 e0 D0 y3 B3 C3; clear l HB; intro l HB q I3 J3 o0 p0; clear hb hbox hg; have L3 := o0.out; have M3 := p0.out; obtain ⟨U0, V0, X0, a1, b1, c1, d1, e1, f1, g1, i1, j1, l1, m1, n1, o1⟩ := zc8 l; obtain ⟨p1, q1, s1, t1, x1, y1, A1, B1, C1, D1, E1, F1, G1, I1, J1, L1⟩ := zc8 q) | ((with_reducible refine gc 11 rfl ?_); refine zF 9 Try.func11 #[.agg #[.int .i64 z, .slice f0 u.length g0], .agg #[.int .i64 I, .slice i0 y.length j0]] rfl zL ?_; refine (laws_eqLm.calls k z _ _ u I _ _ y _ _ (zS E0) F0.out (zS G0) I0.out A3.out).mono ?_; rintro e X3 ⟨rfl, hb⟩; refine ⟨_, rfl, ?_⟩; have c0 := z7 l hb; have d0 := z7 q hb; have e0 := z8 hb; revert c0 d0 e0; clear l q HB; intro l q HB; obtain ⟨M1, N1, O1, R1, S1, T1, U1, V1, X1, a2, b2, c2, d2, e2, f2, g2⟩ := zc8 l; obtain ⟨i2, j2, l2, m2, n2, o2, p2, q2, s2, t2, x2, y2, A2, B2, C2, D2⟩ := zc8 q) | ((with_reducible refine gc 41 rfl ?_); refine zF 15 Try.func41 #[.agg #[.int .i64 A, .int .i64 B, .int .i64 E], .agg #[.int .i64 J, .int .i64 L, .int .i64 M]] rfl zL ?_; (with_reducible refine (laws_eqChoice.calls A B E J L M _ _ A5.out).mono ?_); rintro e a4 ⟨rfl, hb⟩; refine ⟨_, rfl, ?_⟩; have c0 := z7 l hb; have d0 := z7 q hb; have e0 := z8 hb; revert c0 d0 e0; clear l q HB; intro l q HB; obtain ⟨E2, F2, G2, I2, J2, L2, M2, N2, O2, R2, T2, U2, V2, X2, a3, b3⟩ := zc8 l; obtain ⟨c3, d3, e3, f3, g3, i3, j3, l3, m3, n3, o3, p3, q3, s3, t3, x3⟩ := zc8 q))
 all_goals go_ret
 all_goals exact ⟨zE, zB⟩
def laws_FnExactHouseOk.f (k : Nat) (y : Int) (z : List (S71)) (A : Int) (B : Int) (E : Int) (I : Int) (J : Int) (L : Int) : Option (Bool) := (laws_szHouse.f k y z A B E I J L 1048576).bind fun M => (if M < 0 then (some true) else ((laws_toHouse.f k y z A B E I J L).bind fun q => ((spec_HouseOk.f k q.1 q.2.1 q.2.2.1 q.2.2.2.1 q.2.2.2.2.1 q.2.2.2.2.2.1 q.2.2.2.2.2.2.1 q.2.2.2.2.2.2.2).bind fun O => ((laws_toHouse.f k y z A B E I J L).bind fun l => ((impl_HouseOk.f k l.1 l.2.1 l.2.2.1 l.2.2.2.1 l.2.2.2.2.1 l.2.2.2.2.2.1 l.2.2.2.2.2.2.1 l.2.2.2.2.2.2.2).bind fun T => (if (T != O) = true then (some false) else ((laws_toHouse.f k y z A B E I J L).bind fun u => ((laws_eqHouse.f k l.1 l.2.1 l.2.2.1 l.2.2.2.1 l.2.2.2.2.1 l.2.2.2.2.2.1 l.2.2.2.2.2.2.1 l.2.2.2.2.2.2.2 u.1 u.2.1 u.2.2.1 u.2.2.2.1 u.2.2.2.2.1 u.2.2.2.2.2.1 u.2.2.2.2.2.2.1 u.2.2.2.2.2.2.2).bind fun U => (if U = true then (some true) else (some false))))))))))
theorem laws_FnExactHouseOk.calls (k) (E) (t0) (x0) (B : List (S71)) (I) (J) (L) (M) (O) (T) (r : Bool) (w) (n1 : Kd.C k71 w t0 B.length B) (o1 : B.length ≤ x0) (h : laws_FnExactHouseOk.f k E B I J L M O T = some r) :
 Calls Try.prog 4 #[.agg #[.int .i64 E, .slice t0 B.length x0, .int .i64 I, .int .i64 J, .int .i64 L, .int .i64 M, .int .i64 O, .int .i64 T]] w fun e w' => e = .returned (.bool r) ∧ Below w.heap.size w w' := by
 have F6 := Try.underlying36
 have G6 := Try.underlying41
 have B0 := zK n1
 have C0 := zK o1
 clear n1 o1
 have HB := zK (Below.refl w.heap.size w)
 have H : ((laws_szHouse.f k E B I J L M O T 1048576).bind fun g1 => (if g1 < 0 then (some true) else ((laws_toHouse.f k E B I J L M O T).bind fun D0 => ((spec_HouseOk.f k D0.1 D0.2.1 D0.2.2.1 D0.2.2.2.1 D0.2.2.2.2.1 D0.2.2.2.2.2.1 D0.2.2.2.2.2.2.1 D0.2.2.2.2.2.2.2).bind fun q0 => ((laws_toHouse.f k E B I J L M O T).bind fun z => ((impl_HouseOk.f k z.1 z.2.1 z.2.2.1 z.2.2.2.1 z.2.2.2.2.1 z.2.2.2.2.2.1 z.2.2.2.2.2.2.1 z.2.2.2.2.2.2.2).bind fun p0 => (if (p0 != q0) = true then (some false) else ((laws_toHouse.f k E B I J L M O T).bind fun A => ((laws_eqHouse.f k z.1 z.2.1 z.2.2.1 z.2.2.2.1 z.2.2.2.2.1 z.2.2.2.2.2.1 z.2.2.2.2.2.2.1 z.2.2.2.2.2.2.2 A.1 A.2.1 A.2.2.1 A.2.2.2.1 A.2.2.2.2.1 A.2.2.2.2.2.1 A.2.2.2.2.2.2.1 A.2.2.2.2.2.2.2).bind fun E0 => (if E0 = true then (some true) else (some false))))))))))) = some r := h
 clear h
 replace H := z6 H
 obtain ⟨g1, d2, H⟩ := H
 have A2 := zK d2
 clear d2
 by_cases c3 : g1 < 0
 rw [if_pos c3] at H
 have m2 := z1 c3
 clear c3
 obtain rfl := z5 H
 rotate_left
 rw [if_neg c3] at H
 have m2 := z2 c3
 clear c3
 replace H := z6 H
 obtain ⟨⟨M0, F0, N0, O0, R0, S0, T0, U0⟩, e2, H⟩ := H
 replace H : ((spec_HouseOk.f k M0 F0 N0 O0 R0 S0 T0 U0).bind fun q0 => ((laws_toHouse.f k E B I J L M O T).bind fun z => ((impl_HouseOk.f k z.1 z.2.1 z.2.2.1 z.2.2.2.1 z.2.2.2.2.1 z.2.2.2.2.2.1 z.2.2.2.2.2.2.1 z.2.2.2.2.2.2.2).bind fun p0 => (if (p0 != q0) = true then (some false) else ((laws_toHouse.f k E B I J L M O T).bind fun A => ((laws_eqHouse.f k z.1 z.2.1 z.2.2.1 z.2.2.2.1 z.2.2.2.2.1 z.2.2.2.2.2.1 z.2.2.2.2.2.2.1 z.2.2.2.2.2.2.2 A.1 A.2.1 A.2.2.1 A.2.2.2.1 A.2.2.2.2.1 A.2.2.2.2.2.1 A.2.2.2.2.2.2.1 A.2.2.2.2.2.2.2).bind fun E0 => (if E0 = true then (some true) else (some false)))))))) = some r := H
 have A7 := zK e2
 clear e2
 replace H := z6 H
 obtain ⟨q0, f2, H⟩ := H
 have A8 := zK f2
 clear f2
 replace H := z6 H
 obtain ⟨⟨f0, e0, g0, i0, j0, l0, m0, n0⟩, g2, H⟩ := H
 replace H : ((impl_HouseOk.f k f0 e0 g0 i0 j0 l0 m0 n0).bind fun p0 => (if (p0 != q0) = true then (some false) else ((laws_toHouse.f k E B I J L M O T).bind fun A => ((laws_eqHouse.f k f0 e0 g0 i0 j0 l0 m0 n0 A.1 A.2.1 A.2.2.1 A.2.2.2.1 A.2.2.2.2.1 A.2.2.2.2.2.1 A.2.2.2.2.2.2.1 A.2.2.2.2.2.2.2).bind fun E0 => (if E0 = true then (some true) else (some false)))))) = some r := H
 have A9 := zK g2
 clear g2
 replace H := z6 H
 obtain ⟨p0, t1, H⟩ := H
 have i2 := zK t1
 clear t1
 by_cases G0 : (p0 != q0) = true
 rw [if_pos G0] at H
 have T1 : (p0 != q0) = true := G0
 (try (have U1 : decide (p0 = q0) = false := by simpa using G0))
 (try (have V1 : (p0 == q0) = false := by simpa using G0))
 (try (have A6 : ¬ (p0 = q0) := by simpa using G0))
 clear G0
 obtain rfl := z5 H
 rotate_left
 rw [if_neg G0] at H
 have T1 : (p0 != q0) = false := by simpa using G0
 (try (have U1 : decide (p0 = q0) = true := by simpa using G0))
 (try (have V1 : (p0 == q0) = true := by simpa using G0))
 clear G0
 replace H := z6 H
 obtain ⟨⟨V0, X0, a1, b1, c1, d1, e1, f1⟩, x1, H⟩ := H
 replace H : ((laws_eqHouse.f k f0 e0 g0 i0 j0 l0 m0 n0 V0 X0 a1 b1 c1 d1 e1 f1).bind fun E0 => (if E0 = true then (some true) else (some false))) = some r := H
 have j2 := zK x1
 clear x1
 replace H := z6 H
 obtain ⟨E0, y1, H⟩ := H
 have l2 := zK y1
 clear y1
 by_cases p1 : E0 = true
 · subst p1
   rw [if_pos rfl] at H
   obtain rfl := z5 H
   go_enter Try.func4, Try.ntmps4
   try go_wp2_with (first | ((with_reducible refine gd 1 rfl ?_); refine zJ 1 #[.int .i64 E, .slice t0 B.length x0, .int .i64 I, .int .i64 J, .int .i64 L, .int .i64 M, .int .i64 O, .int .i64 T] 36 ?_; intro c0 hg I6 hbox hb; have U := z8 hb; have X := zK (hbox); have a0 := z9 hg; have d0 := z9 hg; revert U X a0 d0; clear HB; intro HB l X1 a2; clear hb hbox hg; obtain ⟨O2, R2, T2, U2, V2, X2, a3, b3, d3, e3, f3, g3, i3, j3, l3, m3⟩ := zc8 l) | ((with_reducible refine gc 12 rfl ?_); refine zF 9 Try.func12 #[.agg #[.int .i64 E, .slice t0 B.length x0, .int .i64 I, .int .i64 J, .int .i64 L, .int .i64 M, .int .i64 O, .int .i64 T], .int .i64 1048576] rfl zL ?_; refine (laws_szHouse.calls k E _ _ B I J L M O T 1048576 g1 _ (zS B0) C0.out A2.out).mono ?_; rintro e J6 ⟨rfl, hb⟩; refine ⟨_, rfl, ?_⟩; have U := z7 l hb; have X := z8 hb; revert U X; clear l HB; intro l HB; obtain ⟨n3, o3, p3, q3, t3, x3, y3, A3, B3, C3, D3, E3, F3, G3, I3, J3⟩ := zc8 l) | ((with_reducible refine gc 14 rfl ?_); refine zF 13 Try.func14 #[.agg #[.int .i64 E, .slice t0 B.length x0, .int .i64 I, .int .i64 J, .int .i64 L, .int .i64 M, .int .i64 O, .int .i64 T]] rfl zL ?_; refine (laws_toHouse.calls k E _ _ B I J L M O T M0 F0 N0 O0 R0 S0 T0 U0 _ (zS B0) C0.out A7.out).mono ?_; rintro e L6 ⟨v248, rfl, y0, hb⟩; refine ⟨_, rfl, ?_⟩; have U := zK (Kd.S_lower y0 (zz zB)); have X := z7 l hb; have a0 := z8 hb; revert U X a0; clear l HB; intro u l HB; obtain ⟨A1, B1, n2⟩ := Kd.S_slice u.out; subst n2) | ((with_reducible refine gc 13 rfl ?_); refine zF 14 Try.func13 #[.agg #[.int .i64 M0, .slice A1 F0.length B1, .int .i64 N0, .int .i64 O0, .int .i64 R0, .int .i64 S0, .int .i64 T0, .int .i64 U0]] rfl zL ?_; refine (spec_HouseOk.calls k M0 _ _ F0 N0 O0 R0 S0 T0 U0 q0 _ (zC (Kd.S_reads' u.out).2.2) ((Kd.S_reads' u.out).2.1) A8.out).mono ?_; rintro e M6 ⟨rfl, hb⟩; refine ⟨_, rfl, ?_⟩; have U := zK (Kd.S_below (zkS u) hb); have X := z7 l hb; have a0 := z8 hb; revert U X a0; clear u l HB; intro u l HB; obtain ⟨L3, M3, N3, O3, R3, S3, T3, U3, V3, X3, a4, b4, c4, d4, e4, f4⟩ := zc8 l) | ((with_reducible refine gc 14 rfl ?_); refine zF 16 Try.func14 #[.agg #[.int .i64 E, .slice t0 B.length x0, .int .i64 I, .int .i64 J, .int .i64 L, .int .i64 M, .int .i64 O, .int .i64 T]] rfl zL ?_; refine (laws_toHouse.calls k E _ _ B I J L M O T f0 e0 g0 i0 j0 l0 m0 n0 _ (zS B0) C0.out A9.out).mono ?_; rintro e N6 ⟨v259, rfl, y0, hb⟩; refine ⟨_, rfl, ?_⟩; have U := zK (Kd.S_elder' (zkS u) (Kd.S_base y0) hb); have X := zK (Kd.S_lower (Kd.S_new' y0 (Kd.S_lt (zkS u))) (zz zB)); have a0 := z7 l hb; have d0 := z8 hb; revert U X a0 d0; clear u l HB; intro u y l HB) | ((with_reducible refine gd 5 rfl ?_); refine zJ 5 #[.int .i64 0, .slice none 0 0, .int .i64 0, .int .i64 0, .int .i64 0, .int .i64 0, .int .i64 0, .int .i64 0] 41 ?_; intro b0 hg O6 hbox hb; have U := zK (Kd.S_below (zkS u) hb); have X := zK (Kd.S_below (zkS y) hb); have a0 := z7 l hb; have d0 := z8 hb; have A0 := zK (hbox); have I0 := z9 hg; have C1 := z9 hg; have D1 := zHH hg l; have E1 := zGG hg l; revert U X a0 d0 A0 I0 C1 D1 E1; clear u y l HB; intro u y l HB q b2 c2 J0 L0; clear hb hbox hg; have B6 := L0.out; have C6 := J0.out; obtain ⟨g4, i4, j4, l4, m4, n4, o4, p4, q4, t4, x4, y4, A4, B4, C4, D4⟩ := zc8 q; obtain ⟨l1, i1, o2⟩ := Kd.S_slice y.out; subst o2) | ((with_reducible refine gc 15 rfl ?_); refine zF 18 Try.func15 #[.agg #[.int .i64 f0, .slice l1 e0.length i1, .int .i64 g0, .int .i64 i0, .int .i64 j0, .int .i64 l0, .int .i64 m0, .int .i64 n0]] rfl zL ?_; (with_reducible refine (impl_HouseOk.calls k f0 _ _ e0 g0 i0 j0 l0 m0 n0 p0 _ ?side1 ?side2 i2.out).mono ?_); (case side1 => refine (Kd.S_reads' (e := 57) (base := w.heap.size) (ok := fun k_ => (True ∧ some k_ ≠ (.slice A1 F0.length B1 : Value).ownBlock)) (n := e0.length) (c := i1) ?_).2.2; exact (Kd.S_mono (zlS (Kd.S_types y.out q.out (by decide))) (fun _ h_ => h_.1))); (case side2 => exact (Kd.S_reads' y.out).2.1); rintro e x6 ⟨rfl, hb⟩; refine ⟨_, rfl, ?_⟩; have U := zK (Kd.S_below (Kd.S_mono (zlS (Kd.S_types u.out q.out (by decide))) (fun _ h_ => h_.1)) hb); have X := zK (Kd.S_below (Kd.S_mono (zlS (Kd.S_types y.out q.out (by decide))) (fun _ h_ => h_.1)) hb); have a0 := zK (zg (zV l) hb); have d0 := zK (zg (g := b0) (o := .cells #[.int .i64 f0, .slice l1 e0.length i1, .int .i64 g0, .int .i64 i0, .int .i64 j0, .int .i64 l0, .int .i64 m0, .int .i64 n0] 41 (0, 0)) (zW q) hb); have A0 := z8 hb; revert U X a0 d0 A0; clear u y l q HB; intro u y l q HB))
   have U := zK (Kd.S_drew u.out)
   have X := zK (Kd.S_drew y.out)
   have a0 := zK (zd l.out)
   have d0 := zK (zd q.out)
   have A0 := zK (ze HB.out)
   revert U X a0 d0 A0
   clear u y l q HB
   intro u y l q HB
   refine start_ (n := 5) (S := fun w' => w'.cell? ⟨b0, 0, none⟩ = some (.int .i64 f0) ∧ w'.cell? ⟨b0, 1, none⟩ = some (.slice l1 e0.length i1) ∧ w'.cell? ⟨b0, 2, none⟩ = some (.int .i64 g0) ∧ w'.cell? ⟨b0, 3, none⟩ = some (.int .i64 i0) ∧ w'.cell? ⟨b0, 4, none⟩ = some (.int .i64 j0) ∧ w'.cell? ⟨b0, 5, none⟩ = some (.int .i64 l0) ∧ w'.cell? ⟨b0, 6, none⟩ = some (.int .i64 m0) ∧ w'.cell? ⟨b0, 7, none⟩ = some (.int .i64 n0) ∧ w'.cell? ⟨c0, 0, none⟩ = some (.int .i64 E) ∧ w'.cell? ⟨c0, 1, none⟩ = some (.slice t0 B.length x0) ∧ w'.cell? ⟨c0, 2, none⟩ = some (.int .i64 I) ∧ w'.cell? ⟨c0, 3, none⟩ = some (.int .i64 J) ∧ w'.cell? ⟨c0, 4, none⟩ = some (.int .i64 L) ∧ w'.cell? ⟨c0, 5, none⟩ = some (.int .i64 M) ∧ w'.cell? ⟨c0, 6, none⟩ = some (.int .i64 O) ∧ w'.cell? ⟨c0, 7, none⟩ = some (.int .i64 T)) (ds := []) (bl 5 0) (by kernel_rfl) rfl (by kernel_rfl) ⟨zy q 0, zy q 1, zy q 2, zy q 3, zy q 4, zy q 5, zy q 6, zy q 7, zy l 0, zy l 1, zy l 2, zy l 3, zy l 4, zy l 5, zy l 6, zy l 7⟩ (fun hHeld => ?_)
   generalize x6.drew = R6 at u y l q HB hHeld ⊢
   refine take_ (i := 0) (N := some 22) (v := ?_) (a' := ?_) (bl 5 1) rfl rfl (by kernel_rfl) (fun _ _ _ h => h) (Or.inl ⟨by rfl, ?_⟩) hHeld ?_ ?_
   rotate_left
   · rintro w' ⟨s0, s1, s2, s3, s4, s5, s6, s7, s8, s9, F1, G1, I1, J1, L1, M1⟩
     go_simp
     with_reducible rfl
   rotate_left
   · simp only [Act.put, zq1, zq2, zq3, i64_w, i32_w]
     rfl
   refine take_ (i := 1) (N := some 23) (v := ?_) (a' := ?_) (bl 5 3) rfl rfl (by kernel_rfl) (fun _ _ _ h => h) (Or.inl ⟨by rfl, ?_⟩) hHeld ?_ ?_
   rotate_left
   · rintro w' ⟨s0, s1, s2, s3, s4, s5, s6, s7, s8, s9, F1, G1, I1, J1, L1, M1⟩
     go_simp
     with_reducible rfl
   rotate_left
   · simp only [Act.put, zq1, zq2, zq3, i64_w, i32_w]
     rfl
   refine one_ (i := 2) (N := some 24) (bl 5 7) rfl rfl (by kernel_rfl) (by decide) (fun K hK => ?_)
   refine goes_ Try.func14 (by kernel_rfl) rfl #[.agg #[.int .i64 E, .slice t0 B.length x0, .int .i64 I, .int .i64 J, .int .i64 L, .int .i64 M, .int .i64 O, .int .i64 T]] (by rfl) rfl rfl zL ?_
   refine (laws_toHouse.calls k E _ _ B I J L M O T V0 X0 a1 b1 c1 d1 e1 f1 _ (zS B0) C0.out j2.out).mono ?_
   rintro e S6 ⟨v271, rfl, y0, hb⟩
   refine ⟨_, rfl, ?_⟩
   have U := zK (Kd.S_elder' (zkS u) (Kd.S_base y0) hb)
   have X := zK (Kd.S_elder' (zkS y) (Kd.S_base y0) hb)
   have a0 := zK (Kd.S_lower (Kd.S_new' (Kd.S_new' y0 (Kd.S_lt (zkS u))) (Kd.S_lt (zkS y))) (zz zB))
   have d0 := z7 l hb
   have A0 := z7 q hb
   have I0 := z8 hb
   revert U X a0 d0 A0 I0
   clear u y l q HB
   intro u y o0 l q HB
   (try clear hb)
   (try clear hb2)
   (try clear hk)
   (try clear hi)
   (try clear y0)
   obtain ⟨G2, I2, N1⟩ := Kd.S_slice o0.out
   (first | subst N1 | (injection N1 with f1_ f2_ f3_; have f4_ := f1_.symm; have f5_ := f3_.symm; clear f1_ f2_ f3_; subst f4_; subst f5_))
   refine hK.out _ _ ⟨zy q 0, zy q 1, zy q 2, zy q 3, zy q 4, zy q 5, zy q 6, zy q 7, zy l 0, zy l 1, zy l 2, zy l 3, zy l 4, zy l 5, zy l 6, zy l 7⟩ (fun hHeld => ?_)
   clear hK K
   refine zU 24 ?_
   refine one_ (i := 3) (N := some 25) (bl 5 15) rfl rfl (by kernel_rfl) (by decide) (fun K hK => ?_)
   refine goes_ Try.func16 (by kernel_rfl) rfl #[.agg #[.int .i64 f0, .slice l1 e0.length i1, .int .i64 g0, .int .i64 i0, .int .i64 j0, .int .i64 l0, .int .i64 m0, .int .i64 n0], .agg #[.int .i64 V0, .slice G2 X0.length I2, .int .i64 a1, .int .i64 b1, .int .i64 c1, .int .i64 d1, .int .i64 e1, .int .i64 f1]] (by rfl) rfl rfl zL ?_
   refine (laws_eqHouse.calls k f0 _ _ e0 g0 i0 j0 l0 m0 n0 V0 _ _ X0 a1 b1 c1 d1 e1 f1 true _ (zC (Kd.S_reads' y.out).2.2) ((Kd.S_reads' y.out).2.1) (zC (Kd.S_reads' o0.out).2.2) ((Kd.S_reads' o0.out).2.1) l2.out).mono ?_
   rintro e T6 ⟨rfl, hb⟩
   refine ⟨_, rfl, ?_⟩
   have U := zK (Kd.S_below (zkS u) hb)
   have X := zK (Kd.S_below (zkS y) hb)
   have a0 := zK (Kd.S_below (zkS o0) hb)
   have d0 := z7 l hb
   have A0 := z7 q hb
   have I0 := z8 hb
   revert U X a0 d0 A0 I0
   clear u y o0 l q HB
   intro u y o0 l q HB
   (try clear hb)
   (try clear hb2)
   (try clear hk)
   (try clear hi)
   refine hK.out _ _ ⟨zy q 0, zy q 1, zy q 2, zy q 3, zy q 4, zy q 5, zy q 6, zy q 7, zy l 0, zy l 1, zy l 2, zy l 3, zy l 4, zy l 5, zy l 6, zy l 7⟩ (fun hHeld => ?_)
   clear hK K
   refine zU 25 ?_
   refine pure_ (i := 4) (N := some 26) (v := ?_) (a' := ?_) (bl 5 31) rfl rfl (by kernel_rfl) (fun _ _ _ h => h) (Or.inl ⟨by rfl, ?_⟩) ?_ ?_
   rotate_left
   · intro w'
     go_simp
     with_reducible rfl
   rotate_left
   · simp only [Act.put, zq1, zq2, zq3, i64_w, i32_w]
     rfl
   refine done_ (by kernel_rfl) ?_
   try go_wp2
   go_ret
   exact ⟨zE, zB⟩
 replace p1 := Bool.eq_false_iff.mpr p1
 subst p1
 rw [if_neg (show ¬ (false = true) by decide)] at H
 obtain rfl := z5 H
 all_goals go_enter Try.func4, Try.ntmps4
 all_goals try go_wp2_with (first | ((with_reducible refine gd 1 rfl ?_); refine zJ 1 #[.int .i64 E, .slice t0 B.length x0, .int .i64 I, .int .i64 J, .int .i64 L, .int .i64 M, .int .i64 O, .int .i64 T] 36 ?_; intro c0 hg U6 hbox hb; have U := z8 hb; have X := zK (hbox); have a0 := z9 hg; have d0 := z9 hg; revert U X a0 d0; clear HB; intro HB l X1 a2; clear hb hbox hg; obtain ⟨E4, F4, G4, I4, J4, L4, M4, N4, O4, R4, S4, T4, U4, V4, X4, a5⟩ := zc8 l) | ((with_reducible refine gc 12 rfl ?_); refine zF 9 Try.func12 #[.agg #[.int .i64 E, .slice t0 B.length x0, .int .i64 I, .int .i64 J, .int .i64 L, .int .i64 M, .int .i64 O, .int .i64 T], .int .i64 1048576] rfl zL ?_; refine (laws_szHouse.calls k E _ _ B I J L M O T 1048576 g1 _ (zS B0) C0.out A2.out).mono ?_; rintro e V6 ⟨rfl, hb⟩; refine ⟨_, rfl, ?_⟩; have U := z7 l hb; have X := z8 hb; revert U X; clear l HB; intro l HB; obtain ⟨b5, c5, d5, e5, f5, g5, i5, j5, l5, m5, n5, o5, p5, q5, t5, x5⟩ := zc8 l) | ((with_reducible refine gc 14 rfl ?_); refine zF 13 Try.func14 #[.agg #[.int .i64 E, .slice t0 B.length x0, .int .i64 I, .int .i64 J, .int .i64 L, .int .i64 M, .int .i64 O, .int .i64 T]] rfl zL ?_; refine (laws_toHouse.calls k E _ _ B I J L M O T M0 F0 N0 O0 R0 S0 T0 U0 _ (zS B0) C0.out A7.out).mono ?_; rintro e X6 ⟨v248, rfl, y0, hb⟩; refine ⟨_, rfl, ?_⟩; have U := zK (Kd.S_lower y0 (zz zB)); have X := z7 l hb; have a0 := z8 hb; revert U X a0; clear l HB; intro u l HB; obtain ⟨O1, R1, J2⟩ := Kd.S_slice u.out; subst J2) | ((with_reducible refine gc 13 rfl ?_); refine zF 14 Try.func13 #[.agg #[.int .i64 M0, .slice O1 F0.length R1, .int .i64 N0, .int .i64 O0, .int .i64 R0, .int .i64 S0, .int .i64 T0, .int .i64 U0]] rfl zL ?_; refine (spec_HouseOk.calls k M0 _ _ F0 N0 O0 R0 S0 T0 U0 q0 _ (zC (Kd.S_reads' u.out).2.2) ((Kd.S_reads' u.out).2.1) A8.out).mono ?_; rintro e a7 ⟨rfl, hb⟩; refine ⟨_, rfl, ?_⟩; have U := zK (Kd.S_below (zkS u) hb); have X := z7 l hb; have a0 := z8 hb; revert U X a0; clear u l HB; intro u l HB; obtain ⟨y5, A5, B5, C5, D5, E5, F5, G5, I5, J5, L5, M5, N5, O5, R5, S5⟩ := zc8 l) | ((with_reducible refine gc 14 rfl ?_); refine zF 16 Try.func14 #[.agg #[.int .i64 E, .slice t0 B.length x0, .int .i64 I, .int .i64 J, .int .i64 L, .int .i64 M, .int .i64 O, .int .i64 T]] rfl zL ?_; refine (laws_toHouse.calls k E _ _ B I J L M O T f0 e0 g0 i0 j0 l0 m0 n0 _ (zS B0) C0.out A9.out).mono ?_; rintro e b7 ⟨v259, rfl, y0, hb⟩; refine ⟨_, rfl, ?_⟩; have U := zK (Kd.S_elder' (zkS u) (Kd.S_base y0) hb); have X := zK (Kd.S_lower (Kd.S_new' y0 (Kd.S_lt (zkS u))) (zz zB)); have a0 := z7 l hb; have d0 := z8 hb; revert U X a0 d0; clear u l HB; intro u y l HB) | ((with_reducible refine gd 5 rfl ?_); refine zJ 5 #[.int .i64 0, .slice none 0 0, .int .i64 0, .int .i64 0, .int .i64 0, .int .i64 0, .int .i64 0, .int .i64 0] 41 ?_; intro b0 hg c7 hbox hb; have U := zK (Kd.S_below (zkS u) hb); have X := zK (Kd.S_below (zkS y) hb); have a0 := z7 l hb; have d0 := z8 hb; have A0 := zK (hbox); have I0 := z9 hg; have C1 := z9 hg; have D1 := zHH hg l; have E1 := zGG hg l; revert U X a0 d0 A0 I0 C1 D1 E1; clear u y l HB; intro u y l HB q b2 c2 J0 L0; clear hb hbox hg; have D6 := L0.out; have E6 := J0.out; obtain ⟨T5, U5, V5, X5, a6, b6, c6, d6, e6, f6, g6, i6, j6, l6, m6, n6⟩ := zc8 q; obtain ⟨m1, j1, L2⟩ := Kd.S_slice y.out; subst L2) | ((with_reducible refine gc 15 rfl ?_); refine zF 18 Try.func15 #[.agg #[.int .i64 f0, .slice m1 e0.length j1, .int .i64 g0, .int .i64 i0, .int .i64 j0, .int .i64 l0, .int .i64 m0, .int .i64 n0]] rfl zL ?_; (with_reducible refine (impl_HouseOk.calls k f0 _ _ e0 g0 i0 j0 l0 m0 n0 p0 _ ?side1 ?side2 i2.out).mono ?_); (case side1 => refine (Kd.S_reads' (e := 57) (base := w.heap.size) (ok := fun k_ => (True ∧ some k_ ≠ (.slice O1 F0.length R1 : Value).ownBlock)) (n := e0.length) (c := j1) ?_).2.2; exact (Kd.S_mono (zlS (Kd.S_types y.out q.out (by decide))) (fun _ h_ => h_.1))); (case side2 => exact (Kd.S_reads' y.out).2.1); rintro e y6 ⟨rfl, hb⟩; refine ⟨_, rfl, ?_⟩; have U := zK (Kd.S_below (Kd.S_mono (zlS (Kd.S_types u.out q.out (by decide))) (fun _ h_ => h_.1)) hb); have X := zK (Kd.S_below (Kd.S_mono (zlS (Kd.S_types y.out q.out (by decide))) (fun _ h_ => h_.1)) hb); have a0 := zK (zg (zV l) hb); have d0 := zK (zg (g := b0) (o := .cells #[.int .i64 f0, .slice m1 e0.length j1, .int .i64 g0, .int .i64 i0, .int .i64 j0, .int .i64 l0, .int .i64 m0, .int .i64 n0] 41 (0, 0)) (zW q) hb); have A0 := z8 hb; revert U X a0 d0 A0; clear u y l q HB; intro u y l q HB))
 · have U := zK (Kd.S_drew u.out)
   have X := zK (Kd.S_drew y.out)
   have a0 := zK (zd l.out)
   have d0 := zK (zd q.out)
   have A0 := zK (ze HB.out)
   revert U X a0 d0 A0
   clear u y l q HB
   intro u y l q HB
   refine start_ (n := 5) (S := fun w' => w'.cell? ⟨b0, 0, none⟩ = some (.int .i64 f0) ∧ w'.cell? ⟨b0, 1, none⟩ = some (.slice m1 e0.length j1) ∧ w'.cell? ⟨b0, 2, none⟩ = some (.int .i64 g0) ∧ w'.cell? ⟨b0, 3, none⟩ = some (.int .i64 i0) ∧ w'.cell? ⟨b0, 4, none⟩ = some (.int .i64 j0) ∧ w'.cell? ⟨b0, 5, none⟩ = some (.int .i64 l0) ∧ w'.cell? ⟨b0, 6, none⟩ = some (.int .i64 m0) ∧ w'.cell? ⟨b0, 7, none⟩ = some (.int .i64 n0) ∧ w'.cell? ⟨c0, 0, none⟩ = some (.int .i64 E) ∧ w'.cell? ⟨c0, 1, none⟩ = some (.slice t0 B.length x0) ∧ w'.cell? ⟨c0, 2, none⟩ = some (.int .i64 I) ∧ w'.cell? ⟨c0, 3, none⟩ = some (.int .i64 J) ∧ w'.cell? ⟨c0, 4, none⟩ = some (.int .i64 L) ∧ w'.cell? ⟨c0, 5, none⟩ = some (.int .i64 M) ∧ w'.cell? ⟨c0, 6, none⟩ = some (.int .i64 O) ∧ w'.cell? ⟨c0, 7, none⟩ = some (.int .i64 T)) (ds := []) (bl 5 0) (by kernel_rfl) rfl (by kernel_rfl) ⟨zy q 0, zy q 1, zy q 2, zy q 3, zy q 4, zy q 5, zy q 6, zy q 7, zy l 0, zy l 1, zy l 2, zy l 3, zy l 4, zy l 5, zy l 6, zy l 7⟩ (fun hHeld => ?_)
   generalize y6.drew = d7 at u y l q HB hHeld ⊢
   refine take_ (i := 0) (N := some 22) (v := ?_) (a' := ?_) (bl 5 1) rfl rfl (by kernel_rfl) (fun _ _ _ h => h) (Or.inl ⟨by rfl, ?_⟩) hHeld ?_ ?_
   rotate_left
   · rintro w' ⟨s0, s1, s2, s3, s4, s5, s6, s7, s8, s9, F1, G1, I1, J1, L1, M1⟩
     go_simp
     with_reducible rfl
   rotate_left
   · simp only [Act.put, zq1, zq2, zq3, i64_w, i32_w]
     rfl
   refine take_ (i := 1) (N := some 23) (v := ?_) (a' := ?_) (bl 5 3) rfl rfl (by kernel_rfl) (fun _ _ _ h => h) (Or.inl ⟨by rfl, ?_⟩) hHeld ?_ ?_
   rotate_left
   · rintro w' ⟨s0, s1, s2, s3, s4, s5, s6, s7, s8, s9, F1, G1, I1, J1, L1, M1⟩
     go_simp
     with_reducible rfl
   rotate_left
   · simp only [Act.put, zq1, zq2, zq3, i64_w, i32_w]
     rfl
   refine one_ (i := 2) (N := some 24) (bl 5 7) rfl rfl (by kernel_rfl) (by decide) (fun K hK => ?_)
   refine goes_ Try.func14 (by kernel_rfl) rfl #[.agg #[.int .i64 E, .slice t0 B.length x0, .int .i64 I, .int .i64 J, .int .i64 L, .int .i64 M, .int .i64 O, .int .i64 T]] (by rfl) rfl rfl zL ?_
   refine (laws_toHouse.calls k E _ _ B I J L M O T V0 X0 a1 b1 c1 d1 e1 f1 _ (zS B0) C0.out j2.out).mono ?_
   rintro e e7 ⟨v271, rfl, y0, hb⟩
   refine ⟨_, rfl, ?_⟩
   have U := zK (Kd.S_elder' (zkS u) (Kd.S_base y0) hb)
   have X := zK (Kd.S_elder' (zkS y) (Kd.S_base y0) hb)
   have a0 := zK (Kd.S_lower (Kd.S_new' (Kd.S_new' y0 (Kd.S_lt (zkS u))) (Kd.S_lt (zkS y))) (zz zB))
   have d0 := z7 l hb
   have A0 := z7 q hb
   have I0 := z8 hb
   revert U X a0 d0 A0 I0
   clear u y l q HB
   intro u y o0 l q HB
   (try clear hb)
   (try clear hb2)
   (try clear hk)
   (try clear hi)
   (try clear y0)
   obtain ⟨M2, N2, S1⟩ := Kd.S_slice o0.out
   (first | subst S1 | (injection S1 with f1_ f2_ f3_; have f4_ := f1_.symm; have f5_ := f3_.symm; clear f1_ f2_ f3_; subst f4_; subst f5_))
   refine hK.out _ _ ⟨zy q 0, zy q 1, zy q 2, zy q 3, zy q 4, zy q 5, zy q 6, zy q 7, zy l 0, zy l 1, zy l 2, zy l 3, zy l 4, zy l 5, zy l 6, zy l 7⟩ (fun hHeld => ?_)
   clear hK K
   refine zU 24 ?_
   refine one_ (i := 3) (N := some 25) (bl 5 15) rfl rfl (by kernel_rfl) (by decide) (fun K hK => ?_)
   refine goes_ Try.func16 (by kernel_rfl) rfl #[.agg #[.int .i64 f0, .slice m1 e0.length j1, .int .i64 g0, .int .i64 i0, .int .i64 j0, .int .i64 l0, .int .i64 m0, .int .i64 n0], .agg #[.int .i64 V0, .slice M2 X0.length N2, .int .i64 a1, .int .i64 b1, .int .i64 c1, .int .i64 d1, .int .i64 e1, .int .i64 f1]] (by rfl) rfl rfl zL ?_
   refine (laws_eqHouse.calls k f0 _ _ e0 g0 i0 j0 l0 m0 n0 V0 _ _ X0 a1 b1 c1 d1 e1 f1 false _ (zC (Kd.S_reads' y.out).2.2) ((Kd.S_reads' y.out).2.1) (zC (Kd.S_reads' o0.out).2.2) ((Kd.S_reads' o0.out).2.1) l2.out).mono ?_
   rintro e w64 ⟨rfl, hb⟩
   refine ⟨_, rfl, ?_⟩
   have U := zK (Kd.S_below (zkS u) hb)
   have X := zK (Kd.S_below (zkS y) hb)
   have a0 := zK (Kd.S_below (zkS o0) hb)
   have d0 := z7 l hb
   have A0 := z7 q hb
   have I0 := z8 hb
   revert U X a0 d0 A0 I0
   clear u y o0 l q HB
   intro u y o0 l q HB
   (try clear hb)
   (try clear hb2)
   (try clear hk)
   (try clear hi)
   refine hK.out _ _ ⟨zy q 0, zy q 1, zy q 2, zy q 3, zy q 4, zy q 5, zy q 6, zy q 7, zy l 0, zy l 1, zy l 2, zy l 3, zy l 4, zy l 5, zy l 6, zy l 7⟩ (fun hHeld => ?_)
   clear hK K
   refine zU 25 ?_
   refine pure_ (i := 4) (N := some 26) (v := ?_) (a' := ?_) (bl 5 31) rfl rfl (by kernel_rfl) (fun _ _ _ h => h) (Or.inl ⟨by rfl, ?_⟩) ?_ ?_
   rotate_left
   · intro w'
     go_simp
     with_reducible rfl
   rotate_left
   · simp only [Act.put, zq1, zq2, zq3, i64_w, i32_w]
     rfl
   refine done_ (by kernel_rfl) ?_
   try go_wp2
   go_ret
   exact ⟨zE, zB⟩
 all_goals go_ret
 all_goals exact ⟨zE, zB⟩
def WT71 (x : S71) : Prop := (x.f0.length ≤ maxLen ∧ ∀ l ∈ x.f0, (Lit.int .i64 l).wf = true) ∧ (x.f1.length ≤ maxLen ∧ ∀ l ∈ x.f1, (Lit.int .i64 l).wf = true)
def WT24 (x : S24) : Prop := (Lit.int .i64 x.f0).wf = true ∧ (x.f1.length ≤ maxLen ∧ ∀ l ∈ x.f1, WT71 l)
def WT34 (x : S34) : Prop := (Lit.int .i64 x.f0).wf = true ∧ (Lit.int .i64 x.f1).wf = true ∧ (Lit.int .i64 x.f2).wf = true
def WT36 (x : S36) : Prop := WT24 x.f0 ∧ WT34 x.f1 ∧ (Lit.int .i64 x.f2).wf = true ∧ (Lit.int .i64 x.f3).wf = true ∧ (Lit.int .i64 x.f4).wf = true
/-- THE ONE PURE STATEMENT of laws_FnExactHouseOk: yours. -/
def laws_FnExactHouseOk.Pure : Prop := ∀ (l : S36), WT36 l → ∃ k, laws_FnExactHouseOk.f k l.f0.f0 l.f0.f1 l.f1.f0 l.f1.f1 l.f1.f2 l.f2 l.f3 l.f4 = some true
theorem laws_FnExactHouseOk.walk (P : laws_FnExactHouseOk.Pure) (l : S36) (cs0 : Array Value) (w : World) (z : k36.K w l cs0.toList) (w0 : WT36 l) :
 Calls Try.prog 4 #[.agg cs0] w fun e w' => e = .returned (.bool true) ∧ Below w.heap.size w w' := by
 obtain ⟨k, h⟩ := P l w0
 obtain ⟨q, u, hcs0, y, g0_1⟩ := k36_open z
 obtain rfl : cs0 = #[.int .i64 l.f0.f0, .slice q (l.f0.f1).length u, .int .i64 l.f1.f0, .int .i64 l.f1.f1, .int .i64 l.f1.f2, .int .i64 l.f2, .int .i64 l.f3, .int .i64 l.f4] := by cases cs0; simp_all
 refine (laws_FnExactHouseOk.calls k l.f0.f0 _ _ l.f0.f1 l.f1.f0 l.f1.f1 l.f1.f2 l.f2 l.f3 l.f4 true w g0_1 y h).mono ?_
 rintro e w' ⟨rfl, hd⟩
 exact ⟨rfl, hd⟩
end Go.Proofs.Ytdlhmhgpafegpaa.PFnExactHouseOk
