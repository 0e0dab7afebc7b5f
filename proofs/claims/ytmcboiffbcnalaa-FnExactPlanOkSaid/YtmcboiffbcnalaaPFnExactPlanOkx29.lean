-- Printed out of the translation by this session's own turned copy of a printer; Lean checks it.
import Derived.Test.YtmcboiffbcnalaaPFnExactPlanOkx0
import Derived.Test.YtmcboiffbcnalaaPFnExactPlanOkx1
import Derived.Test.YtmcboiffbcnalaaPFnExactPlanOkx12
import Derived.Test.YtmcboiffbcnalaaPFnExactPlanOkx14
import Derived.Test.YtmcboiffbcnalaaPFnExactPlanOkx25
import Derived.Test.YtmcboiffbcnalaaPFnExactPlanOkx26
import Derived.Test.YtmcboiffbcnalaaPFnExactPlanOkx28
namespace Go.Proofs.Ytmcboiffbcnalaa.PFnExactPlanOk
open Go.RowKit Go.Proofs.YtmcboiffbcnalaaW.PrintWords Go.Proofs.YtmcboiffbcnalaaW.PrintLast Go.Proofs.YtmcboiffbcnalaaW.PrintMore
attribute [local go_sem] max2_int min2_int max_two min_two max_three min_three max_four min_four
set_option linter.unusedVariables false
set_option linter.unusedSimpArgs false
set_option maxHeartbeats 8000000
set_option maxRecDepth 100000
def laws_eqPlan.f (k : Nat) (a : List Int) (l : List Int) (q : List (S71)) (u : List (S79)) (x : List Int) (y : List Int) (z : Int) (A : List Int) (B : List Int) (D : List (S71)) (E : List (S79)) (I : List Int) (J : List Int) (L : Int) : Option (Bool) := (laws_eqNest.f k a l q u x A B D E I).bind fun M => (if M = true then ((laws_eqIntS.f k y J).bind fun O => (if O = true then (if z = L then (some true) else (some false)) else (some false))) else (some false))
theorem laws_eqPlan.calls (k) (T) (U) (l : List Int) (X) (a0) (q : List Int) (b0) (c0) (u : List (S71)) (d0) (e0) (x : List (S79)) (f0) (g0) (y : List Int) (i0) (j0) (z : List Int) (M) (l0) (m0) (A : List Int) (n0) (o0) (B : List Int) (p0) (q0) (D : List (S71)) (s0) (t0) (E : List (S79)) (x0) (y0) (I : List Int) (A0) (B0) (J : List Int) (O) (r : Bool) (w) (M0 : Kd.C (Kd.int .i64) w T l.length l) (N0 : l.length ≤ U) (O0 : Kd.C (Kd.int .i64) w X q.length q) (R0 : q.length ≤ a0) (S0 : Kd.C k71 w b0 u.length u) (T0 : u.length ≤ c0) (U0 : Kd.C k79 w d0 x.length x) (V0 : x.length ≤ e0) (X0 : Kd.C (Kd.int .i64) w f0 y.length y) (a1 : y.length ≤ g0) (b1 : Kd.C (Kd.int .i64) w i0 z.length z) (c1 : z.length ≤ j0) (d1 : Kd.C (Kd.int .i64) w l0 A.length A) (e1 : A.length ≤ m0) (f1 : Kd.C (Kd.int .i64) w n0 B.length B) (g1 : B.length ≤ o0) (i1 : Kd.C k71 w p0 D.length D) (j1 : D.length ≤ q0) (l1 : Kd.C k79 w s0 E.length E) (m1 : E.length ≤ t0) (n1 : Kd.C (Kd.int .i64) w x0 I.length I) (o1 : I.length ≤ y0) (p1 : Kd.C (Kd.int .i64) w A0 J.length J) (q1 : J.length ≤ B0) (h : laws_eqPlan.f k l q u x y z M A B D E I J O = some r) :
 Calls Try.prog 9 #[.agg #[.slice T l.length U, .slice X q.length a0, .slice b0 u.length c0, .slice d0 x.length e0, .slice f0 y.length g0, .slice i0 z.length j0, .int .i64 M], .agg #[.slice l0 A.length m0, .slice n0 B.length o0, .slice p0 D.length q0, .slice s0 E.length t0, .slice x0 I.length y0, .slice A0 J.length B0, .int .i64 O]] w fun e w' => e = .returned (.bool r) ∧ Below w.heap.size w w' := by
 have b4 := Try.underlying36
 have d4 := Try.underlying34
 have y1 := zK M0
 have A1 := zK N0
 clear M0 N0
 have B1 := zK O0
 have C1 := zK R0
 clear O0 R0
 have D1 := zK S0
 have E1 := zK T0
 clear S0 T0
 have F1 := zK U0
 have G1 := zK V0
 clear U0 V0
 have I1 := zK X0
 have J1 := zK a1
 clear X0 a1
 have L1 := zK b1
 have M1 := zK c1
 clear b1 c1
 have N1 := zK d1
 have O1 := zK e1
 clear d1 e1
 have R1 := zK f1
 have S1 := zK g1
 clear f1 g1
 have T1 := zK i1
 have U1 := zK j1
 clear i1 j1
 have V1 := zK l1
 have X1 := zK m1
 clear l1 m1
 have a2 := zK n1
 have b2 := zK o1
 clear n1 o1
 have c2 := zK p1
 have d2 := zK q1
 clear p1 q1
 have HB := zK (Below.refl w.heap.size w)
 have H : ((laws_eqNest.f k l q u x y A B D E I).bind fun I0 => (if I0 = true then ((laws_eqIntS.f k z J).bind fun J0 => (if J0 = true then (if M = O then (some true) else (some false)) else (some false))) else (some false))) = some r := h
 clear h
 replace H := z6 H
 obtain ⟨I0, e2, H⟩ := H
 have A3 := zK e2
 clear e2
 rcases zN (I0 = true) with c4 | c4
 replace c4 := Bool.eq_false_iff.mpr c4
 subst c4
 rw [if_neg (show ¬ (false = true) by decide)] at H
 obtain rfl := z5 H
 rotate_left
 subst c4
 rw [if_pos rfl] at H
 replace H := z6 H
 obtain ⟨J0, f2, H⟩ := H
 have A5 := zK f2
 clear f2
 rcases zN (J0 = true) with c6 | c6
 replace c6 := Bool.eq_false_iff.mpr c6
 subst c6
 rw [if_neg (show ¬ (false = true) by decide)] at H
 obtain rfl := z5 H
 rotate_left
 subst c6
 rw [if_pos rfl] at H
 by_cases c7 : M = O
 rw [if_pos c7] at H
 have g2 := beq_iff_eq.mpr c7
 have i2 := bne_eq_false_iff_eq.mpr c7
 clear c7
 obtain rfl := z5 H
 rotate_left
 rw [if_neg c7] at H
 have g2 := beq_eq_false_iff_ne.mpr c7
 have i2 := bne_iff_ne.mpr c7
 obtain rfl := z5 H
 all_goals go_enter Try.func9, Try.ntmps9
 all_goals go_wp2_with (first | ((with_reducible refine gd 2 rfl ?_); refine zJ 2 #[.slice T l.length U, .slice X q.length a0, .slice b0 u.length c0, .slice d0 x.length e0, .slice f0 y.length g0, .slice i0 z.length j0, .int .i64 M] 36 ?_; intro O3 hg g4 hbox hb; have C0 := z8 hb; have D0 := zK (hbox); have E0 := z9 hg; have x1 := z9 hg; revert C0 D0 E0 x1; clear HB; intro HB a R3 S3; clear hb hbox hg) | ((with_reducible refine gd 3 rfl ?_); refine zJ 3 #[.slice l0 A.length m0, .slice n0 B.length o0, .slice p0 D.length q0, .slice s0 E.length t0, .slice x0 I.length y0, .slice A0 J.length B0, .int .i64 O] 36 ?_; intro T3 hg i4 hbox hb; have C0 := z7 a hb; have D0 := z8 hb; have E0 := zK (hbox); have x1 := z9 hg; have L3 := z9 hg; have M3 := zHH hg a; have N3 := zGG hg a; revert C0 D0 E0 x1 L3 M3 N3; clear a HB; intro a HB L U3 V3 F0 G0; clear hb hbox hg; have X3 := F0.out; have a4 := G0.out; obtain ⟨j2, l2, m2, n2, o2, p2, q2, s2, t2, x2, y2, A2, B2, C2⟩ := zc7 a; obtain ⟨D2, E2, F2, G2, I2, J2, L2, M2, N2, O2, R2, T2, U2, V2⟩ := zc7 L) | ((with_reducible refine gc 15 rfl ?_); refine zF 9 Try.func15 #[.agg #[.slice T l.length U, .slice X q.length a0, .slice b0 u.length c0, .slice d0 x.length e0, .slice f0 y.length g0], .agg #[.slice l0 A.length m0, .slice n0 B.length o0, .slice p0 D.length q0, .slice s0 E.length t0, .slice x0 I.length y0]] rfl zL ?_; refine (laws_eqNest.calls k _ _ l _ _ q _ _ u _ _ x _ _ y _ _ A _ _ B _ _ D _ _ E _ _ I _ _ (zS y1) A1.out (zS B1) C1.out (zS D1) E1.out (zS F1) G1.out (zS I1) J1.out (zS N1) O1.out (zS R1) S1.out (zS T1) U1.out (zS V1) X1.out (zS a2) b2.out A3.out).mono ?_; rintro e j4 ⟨rfl, hb⟩; refine ⟨_, rfl, ?_⟩; have C0 := z7 a hb; have D0 := z7 L hb; have E0 := z8 hb; revert C0 D0 E0; clear a L HB; intro a L HB; obtain ⟨X2, a3, b3, c3, d3, e3, f3, g3, i3, j3, l3, m3, n3, o3⟩ := zc7 a; obtain ⟨p3, q3, s3, t3, x3, y3, B3, C3, D3, E3, F3, G3, I3, J3⟩ := zc7 L) | ((with_reducible refine gc 27 rfl ?_); refine zF 15 Try.func27 #[.slice i0 z.length j0, .slice A0 J.length B0] rfl zL ?_; refine (laws_eqIntS.calls k _ _ z _ _ J _ _ (zS L1) M1.out (zS c2) d2.out A5.out).mono ?_; rintro e w' ⟨rfl, ⟨nd, rfl⟩⟩; refine ⟨_, rfl, ?_⟩))
 all_goals go_ret
 all_goals exact ⟨zE, zB⟩
def laws_FnExactPlanOk.f (k : Nat) (u : List Int) (x : List Int) (y : List (S92)) (z : List (S98)) (A : List Int) (B : List Int) (D : Int) : Option (Bool) := (laws_szPlan.f k u x y z A B D 1048576).bind fun E => (if E < 0 then (some true) else ((laws_toPlan.f k u x y z A B D).bind fun l => ((spec_PlanOk.f k l.1 l.2.1 l.2.2.1 l.2.2.2.1 l.2.2.2.2.1 l.2.2.2.2.2.1 l.2.2.2.2.2.2).bind fun I => ((laws_toPlan.f k u x y z A B D).bind fun a => ((impl_PlanOk.f k a.1 a.2.1 a.2.2.1 a.2.2.2.1 a.2.2.2.2.1 a.2.2.2.2.2.1 a.2.2.2.2.2.2).bind fun J => (if (J != I) = true then (some false) else ((laws_toPlan.f k u x y z A B D).bind fun q => ((laws_eqPlan.f k a.1 a.2.1 a.2.2.1 a.2.2.2.1 a.2.2.2.2.1 a.2.2.2.2.2.1 a.2.2.2.2.2.2 q.1 q.2.1 q.2.2.1 q.2.2.2.1 q.2.2.2.2.1 q.2.2.2.2.2.1 q.2.2.2.2.2.2).bind fun L => (if L = true then (some true) else (some false))))))))))
theorem laws_FnExactPlanOk.calls (k) (i1) (j1) (a0 : List Int) (l1) (m1) (b0 : List Int) (n1) (o1) (c0 : List (S92)) (p1) (q1) (d0 : List (S98)) (t1) (x1) (e0 : List Int) (y1) (A1) (f0 : List Int) (g0) (r : Bool) (w) (G3 : Kd.C (Kd.int .i64) w i1 a0.length a0) (I3 : a0.length ≤ j1) (J3 : Kd.C (Kd.int .i64) w l1 b0.length b0) (L3 : b0.length ≤ m1) (M3 : Kd.C k92 w n1 c0.length c0) (N3 : c0.length ≤ o1) (O3 : Kd.C k98 w p1 d0.length d0) (R3 : d0.length ≤ q1) (S3 : Kd.C (Kd.int .i64) w t1 e0.length e0) (T3 : e0.length ≤ x1) (U3 : Kd.C (Kd.int .i64) w y1 f0.length f0) (V3 : f0.length ≤ A1) (h : laws_FnExactPlanOk.f k a0 b0 c0 d0 e0 f0 g0 = some r) :
 Calls Try.prog 3 #[.agg #[.slice i1 a0.length j1, .slice l1 b0.length m1, .slice n1 c0.length o1, .slice p1 d0.length q1, .slice t1 e0.length x1, .slice y1 f0.length A1, .int .i64 g0]] w fun e w' => e = .returned (.bool r) ∧ Below w.heap.size w w' := by
 have a0f := Try.underlying28
 have a0g := Try.underlying36
 have I1 := zK G3
 have J1 := zK I3
 clear G3 I3
 have L1 := zK J3
 have M1 := zK L3
 clear J3 L3
 have N1 := zK M3
 have O1 := zK N3
 clear M3 N3
 have R1 := zK O3
 have S1 := zK R3
 clear O3 R3
 have T1 := zK S3
 have U1 := zK T3
 clear S3 T3
 have V1 := zK U3
 have X1 := zK V3
 clear U3 V3
 have HB := zK (Below.refl w.heap.size w)
 have H : ((laws_szPlan.f k a0 b0 c0 d0 e0 f0 g0 1048576).bind fun t3 => (if t3 < 0 then (some true) else ((laws_toPlan.f k a0 b0 c0 d0 e0 f0 g0).bind fun j2 => ((spec_PlanOk.f k j2.1 j2.2.1 j2.2.2.1 j2.2.2.2.1 j2.2.2.2.2.1 j2.2.2.2.2.2.1 j2.2.2.2.2.2.2).bind fun g1 => ((laws_toPlan.f k a0 b0 c0 d0 e0 f0 g0).bind fun M => ((impl_PlanOk.f k M.1 M.2.1 M.2.2.1 M.2.2.2.1 M.2.2.2.2.1 M.2.2.2.2.2.1 M.2.2.2.2.2.2).bind fun f1 => (if (f1 != g1) = true then (some false) else ((laws_toPlan.f k a0 b0 c0 d0 e0 f0 g0).bind fun i0 => ((laws_eqPlan.f k M.1 M.2.1 M.2.2.1 M.2.2.2.1 M.2.2.2.2.1 M.2.2.2.2.2.1 M.2.2.2.2.2.2 i0.1 i0.2.1 i0.2.2.1 i0.2.2.2.1 i0.2.2.2.2.1 i0.2.2.2.2.2.1 i0.2.2.2.2.2.2).bind fun l2 => (if l2 = true then (some true) else (some false))))))))))) = some r := h
 clear h
 replace H := z6 H
 obtain ⟨t3, g5, H⟩ := H
 have A2 := zK g5
 clear g5
 by_cases c3 : t3 < 0
 rw [if_pos c3] at H
 have p5 := z1 c3
 clear c3
 obtain rfl := z5 H
 rotate_left
 rw [if_neg c3] at H
 have p5 := z2 c3
 clear c3
 replace H := z6 H
 obtain ⟨⟨I0, J0, m2, n2, L0, M0, G2⟩, i5, H⟩ := H
 replace H : ((spec_PlanOk.f k I0 J0 m2 n2 L0 M0 G2).bind fun g1 => ((laws_toPlan.f k a0 b0 c0 d0 e0 f0 g0).bind fun M => ((impl_PlanOk.f k M.1 M.2.1 M.2.2.1 M.2.2.2.1 M.2.2.2.2.1 M.2.2.2.2.2.1 M.2.2.2.2.2.2).bind fun f1 => (if (f1 != g1) = true then (some false) else ((laws_toPlan.f k a0 b0 c0 d0 e0 f0 g0).bind fun i0 => ((laws_eqPlan.f k M.1 M.2.1 M.2.2.1 M.2.2.2.1 M.2.2.2.2.1 M.2.2.2.2.2.1 M.2.2.2.2.2.2 i0.1 i0.2.1 i0.2.2.1 i0.2.2.2.1 i0.2.2.2.2.1 i0.2.2.2.2.2.1 i0.2.2.2.2.2.2).bind fun l2 => (if l2 = true then (some true) else (some false)))))))) = some r := H
 have A7 := zK i5
 clear i5
 replace H := z6 H
 obtain ⟨g1, j5, H⟩ := H
 have A8 := zK j5
 clear j5
 replace H := z6 H
 obtain ⟨⟨j0, l0, N0, O0, m0, n0, T0⟩, l5, H⟩ := H
 replace H : ((impl_PlanOk.f k j0 l0 N0 O0 m0 n0 T0).bind fun f1 => (if (f1 != g1) = true then (some false) else ((laws_toPlan.f k a0 b0 c0 d0 e0 f0 g0).bind fun i0 => ((laws_eqPlan.f k j0 l0 N0 O0 m0 n0 T0 i0.1 i0.2.1 i0.2.2.1 i0.2.2.2.1 i0.2.2.2.2.1 i0.2.2.2.2.2.1 i0.2.2.2.2.2.2).bind fun l2 => (if l2 = true then (some true) else (some false)))))) = some r := H
 have A9 := zK l5
 clear l5
 replace H := z6 H
 obtain ⟨f1, f4, H⟩ := H
 have m5 := zK f4
 clear f4
 by_cases D2 : (f1 != g1) = true
 rw [if_pos D2] at H
 have M4 : (f1 != g1) = true := D2
 (try (have N4 : decide (f1 = g1) = false := by simpa using D2))
 (try (have O4 : (f1 == g1) = false := by simpa using D2))
 (try (have a0a : ¬ (f1 = g1) := by simpa using D2))
 clear D2
 obtain rfl := z5 H
 rotate_left
 rw [if_neg D2] at H
 have M4 : (f1 != g1) = false := by simpa using D2
 (try (have N4 : decide (f1 = g1) = true := by simpa using D2))
 (try (have O4 : (f1 == g1) = true := by simpa using D2))
 clear D2
 replace H := z6 H
 obtain ⟨⟨I2, J2, L2, M2, N2, O2, R2⟩, g4, H⟩ := H
 replace H : ((laws_eqPlan.f k j0 l0 N0 O0 m0 n0 T0 I2 J2 L2 M2 N2 O2 R2).bind fun l2 => (if l2 = true then (some true) else (some false))) = some r := H
 have n5 := zK g4
 clear g4
 replace H := z6 H
 obtain ⟨l2, i4, H⟩ := H
 have o5 := zK i4
 clear i4
 by_cases X3 : l2 = true
 · subst X3
   rw [if_pos rfl] at H
   obtain rfl := z5 H
   go_enter Try.func3, Try.ntmps3
   try go_wp2_with (first | ((with_reducible refine gd 1 rfl ?_); refine zJ 1 #[.slice i1 a0.length j1, .slice l1 b0.length m1, .slice n1 c0.length o1, .slice p1 d0.length q1, .slice t1 e0.length x1, .slice y1 f0.length A1, .int .i64 g0] 28 ?_; intro R0 hg w39 hbox hb; have o0 := z8 hb; have p0 := zK (hbox); have q0 := z9 hg; have t0 := z9 hg; revert o0 p0 q0 t0; clear HB; intro HB a R4 S4; clear hb hbox hg; obtain ⟨L6, M6, N6, O6, R6, S6, T6, U6, V6, X6, a7, b7, c7, d7⟩ := zc7 a) | ((with_reducible refine gc 5 rfl ?_); refine zF 9 Try.func5 #[.agg #[.slice i1 a0.length j1, .slice l1 b0.length m1, .slice n1 c0.length o1, .slice p1 d0.length q1, .slice t1 e0.length x1, .slice y1 f0.length A1, .int .i64 g0], .int .i64 1048576] rfl zL ?_; refine (laws_szPlan.calls k _ _ a0 _ _ b0 _ _ c0 _ _ d0 _ _ e0 _ _ f0 g0 1048576 t3 _ (zS I1) J1.out (zS L1) M1.out (zS N1) O1.out (zS R1) S1.out (zS T1) U1.out (zS V1) X1.out A2.out).mono ?_; rintro e w41 ⟨rfl, hb⟩; refine ⟨_, rfl, ?_⟩; have o0 := z7 a hb; have p0 := z8 hb; revert o0 p0; clear a HB; intro a HB; obtain ⟨e7, f7, g7, i7, j7, l7, m7, n7, o7, p7, q7, t7, x7, y7⟩ := zc7 a) | ((with_reducible refine gc 7 rfl ?_); refine zF 13 Try.func7 #[.agg #[.slice i1 a0.length j1, .slice l1 b0.length m1, .slice n1 c0.length o1, .slice p1 d0.length q1, .slice t1 e0.length x1, .slice y1 f0.length A1, .int .i64 g0]] rfl zL ?_; refine (laws_toPlan.calls k _ _ a0 _ _ b0 _ _ c0 _ _ d0 _ _ e0 _ _ f0 g0 I0 J0 m2 n2 L0 M0 G2 _ (zS I1) J1.out (zS L1) M1.out (zS N1) O1.out (zS R1) S1.out (zS T1) U1.out (zS V1) X1.out A7.out).mono ?_; rintro e w43 ⟨v539, v542, v545, v548, v551, v554, rfl, O, T, B1, C1, U, X, hb⟩; refine ⟨_, rfl, ?_⟩; have o0 := zK (Kd.R_lower O (zz zB)); have p0 := zK (Kd.R_lower T (zz zB)); have q0 := zK (Kd.S_lower B1 (zz zB)); have t0 := zK (Kd.R_lower C1 (zz zB)); have x0 := zK (Kd.R_lower U (zz zB)); have y0 := zK (Kd.R_lower X (zz zB)); have A0 := z7 a hb; have B0 := z8 hb; revert o0 p0 q0 t0 x0 y0 A0 B0; clear a HB; intro q u z A x y a HB; obtain ⟨T2, U2, q5⟩ := Kd.R_slice q.out; subst q5; obtain ⟨V2, X2, t5⟩ := Kd.R_slice u.out; subst t5; obtain ⟨j4, l4, x5⟩ := Kd.S_slice z.out; subst x5; obtain ⟨m4, n4, y5⟩ := Kd.R_slice A.out; subst y5; obtain ⟨a3, b3, A5⟩ := Kd.R_slice x.out; subst A5; obtain ⟨d3, e3, B5⟩ := Kd.R_slice y.out; subst B5) | ((with_reducible refine gc 6 rfl ?_); refine zF 14 Try.func6 #[.agg #[.slice T2 I0.length U2, .slice V2 J0.length X2, .slice j4 m2.length l4, .slice m4 n2.length n4, .slice a3 L0.length b3, .slice d3 M0.length e3, .int .i64 G2]] rfl zL ?_; refine (spec_PlanOk.calls k _ _ I0 _ _ J0 _ _ m2 _ _ n2 _ _ L0 _ _ M0 G2 g1 _ (zC (Kd.R_reads' q.out).2.2) ((Kd.R_reads' q.out).2.1) (zC (Kd.R_reads' u.out).2.2) ((Kd.R_reads' u.out).2.1) (zC (Kd.S_reads' z.out).2.2) ((Kd.S_reads' z.out).2.1) (zC (Kd.R_reads' A.out).2.2) ((Kd.R_reads' A.out).2.1) (zC (Kd.R_reads' x.out).2.2) ((Kd.R_reads' x.out).2.1) (zC (Kd.R_reads' y.out).2.2) ((Kd.R_reads' y.out).2.1) A8.out).mono ?_; rintro e w50 ⟨rfl, hb⟩; refine ⟨_, rfl, ?_⟩; have o0 := zK (Kd.R_below (zkR q) hb); have p0 := zK (Kd.R_below (zkR u) hb); have q0 := zK (Kd.S_below (zkS z) hb); have t0 := zK (Kd.R_below (zkR A) hb); have x0 := zK (Kd.R_below (zkR x) hb); have y0 := zK (Kd.R_below (zkR y) hb); have A0 := z7 a hb; have B0 := z8 hb; revert o0 p0 q0 t0 x0 y0 A0 B0; clear q u z A x y a HB; intro q u z A x y a HB; obtain ⟨B7, C7, D7, E7, F7, G7, I7, J7, L7, M7, N7, O7, R7, S7⟩ := zc7 a) | ((with_reducible refine gc 7 rfl ?_); refine zF 16 Try.func7 #[.agg #[.slice i1 a0.length j1, .slice l1 b0.length m1, .slice n1 c0.length o1, .slice p1 d0.length q1, .slice t1 e0.length x1, .slice y1 f0.length A1, .int .i64 g0]] rfl zL ?_; refine (laws_toPlan.calls k _ _ a0 _ _ b0 _ _ c0 _ _ d0 _ _ e0 _ _ f0 g0 j0 l0 N0 O0 m0 n0 T0 _ (zS I1) J1.out (zS L1) M1.out (zS N1) O1.out (zS R1) S1.out (zS T1) U1.out (zS V1) X1.out A9.out).mono ?_; rintro e w52 ⟨v559, v562, v565, v568, v571, v574, rfl, O, T, B1, C1, U, X, hb⟩; refine ⟨_, rfl, ?_⟩; have o0 := zK (Kd.R_mono (Kd.R_told (Kd.R_told (Kd.R_told (Kd.R_told (Kd.R_old (zkR q) hb) (Kd.R_base O)) (Kd.R_base T)) (Kd.R_base U)) (Kd.R_base X)) (fun _ h_ => h_.1)); have p0 := zK (Kd.R_mono (Kd.R_told (Kd.R_told (Kd.R_told (Kd.R_told (Kd.R_old (zkR u) hb) (Kd.R_base O)) (Kd.R_base T)) (Kd.R_base U)) (Kd.R_base X)) (fun _ h_ => h_.1)); have q0 := zK (Kd.S_mono (Kd.S_told (Kd.S_told (Kd.S_told (Kd.S_told (Kd.S_told (Kd.S_old (zkS z) hb) (Kd.R_base O)) (Kd.R_base T)) (Kd.S_base B1)) (Kd.R_base U)) (Kd.R_base X)) (fun _ h_ => h_.1)); have t0 := zK (Kd.R_mono (Kd.R_told (Kd.R_told (Kd.R_told (Kd.R_told (Kd.R_told (Kd.R_old (zkR A) hb) (Kd.R_base O)) (Kd.R_base T)) (Kd.R_base C1)) (Kd.R_base U)) (Kd.R_base X)) (fun _ h_ => h_.1)); have x0 := zK (Kd.R_mono (Kd.R_told (Kd.R_told (Kd.R_told (Kd.R_told (Kd.R_old (zkR x) hb) (Kd.R_base O)) (Kd.R_base T)) (Kd.R_base U)) (Kd.R_base X)) (fun _ h_ => h_.1)); have y0 := zK (Kd.R_mono (Kd.R_told (Kd.R_told (Kd.R_told (Kd.R_told (Kd.R_old (zkR y) hb) (Kd.R_base O)) (Kd.R_base T)) (Kd.R_base U)) (Kd.R_base X)) (fun _ h_ => h_.1)); have A0 := zK (Kd.R_lower (Kd.R_new' (Kd.R_new' (Kd.R_new' (Kd.R_new' O (Kd.R_lt (zkR q))) (Kd.R_lt (zkR u))) (Kd.R_lt (zkR x))) (Kd.R_lt (zkR y))) (zz zB)); have B0 := zK (Kd.R_lower (Kd.R_new' (Kd.R_new' (Kd.R_new' (Kd.R_new' T (Kd.R_lt (zkR q))) (Kd.R_lt (zkR u))) (Kd.R_lt (zkR x))) (Kd.R_lt (zkR y))) (zz zB)); have U0 := zK (Kd.S_lower (Kd.S_new' (Kd.S_new' (Kd.S_new' (Kd.S_new' (Kd.S_new' B1 (Kd.R_lt (zkR q))) (Kd.R_lt (zkR u))) (Kd.S_lt (zkS z))) (Kd.R_lt (zkR x))) (Kd.R_lt (zkR y))) (zz zB)); have V0 := zK (Kd.R_lower (Kd.R_new' (Kd.R_new' (Kd.R_new' (Kd.R_new' (Kd.R_new' C1 (Kd.R_lt (zkR q))) (Kd.R_lt (zkR u))) (Kd.R_lt (zkR A))) (Kd.R_lt (zkR x))) (Kd.R_lt (zkR y))) (zz zB)); have C0 := zK (Kd.R_lower (Kd.R_new' (Kd.R_new' (Kd.R_new' (Kd.R_new' U (Kd.R_lt (zkR q))) (Kd.R_lt (zkR u))) (Kd.R_lt (zkR x))) (Kd.R_lt (zkR y))) (zz zB)); have D0 := zK (Kd.R_lower (Kd.R_new' (Kd.R_new' (Kd.R_new' (Kd.R_new' X (Kd.R_lt (zkR q))) (Kd.R_lt (zkR u))) (Kd.R_lt (zkR x))) (Kd.R_lt (zkR y))) (zz zB)); have E0 := z7 a hb; have F0 := z8 hb; revert o0 p0 q0 t0 x0 y0 A0 B0 U0 V0 C0 D0 E0 F0; clear q u z A x y a HB; intro q u z A x y B D J L E I a HB) | ((with_reducible refine gd 5 rfl ?_); refine zJ 5 #[.slice none 0 0, .slice none 0 0, .slice none 0 0, .slice none 0 0, .slice none 0 0, .slice none 0 0, .int .i64 0] 36 ?_; intro G0 hg w53 hbox hb; have o0 := zK (Kd.R_below (zkR q) hb); have p0 := zK (Kd.R_below (zkR u) hb); have q0 := zK (Kd.S_below (zkS z) hb); have t0 := zK (Kd.R_below (zkR A) hb); have x0 := zK (Kd.R_below (zkR x) hb); have y0 := zK (Kd.R_below (zkR y) hb); have A0 := zK (Kd.R_below (zkR B) hb); have B0 := zK (Kd.R_below (zkR D) hb); have U0 := zK (Kd.S_below (zkS J) hb); have V0 := zK (Kd.R_below (zkR L) hb); have C0 := zK (Kd.R_below (zkR E) hb); have D0 := zK (Kd.R_below (zkR I) hb); have E0 := z7 a hb; have F0 := z8 hb; have S0 := zK (hbox); have D1 := z9 hg; have E1 := z9 hg; have F1 := zHH hg a; have G1 := zGG hg a; revert o0 p0 q0 t0 x0 y0 A0 B0 U0 V0 C0 D0 E0 F0 S0 D1 E1 F1 G1; clear q u z A x y B D J L E I a HB; intro q u z A x y B D J L E I a HB l T4 U4 E2 F2; clear hb hbox hg; obtain ⟨o2, a2, C5⟩ := Kd.R_slice B.out; subst C5; have a0b := F2.out; have a0c := E2.out; obtain ⟨T7, U7, V7, X7, a8, b8, c8, d8, e8, f8, g8, i8, j8, l8⟩ := zc7 l; obtain ⟨p2, b2, D5⟩ := Kd.R_slice D.out; subst D5; obtain ⟨C3, x3, E5⟩ := Kd.S_slice J.out; subst E5; obtain ⟨D3, y3, F5⟩ := Kd.R_slice L.out; subst F5; obtain ⟨q2, c2, G5⟩ := Kd.R_slice E.out; subst G5; obtain ⟨t2, d2, I5⟩ := Kd.R_slice I.out; subst I5) | ((with_reducible refine gc 8 rfl ?_); refine zF 18 Try.func8 #[.agg #[.slice o2 j0.length a2, .slice p2 l0.length b2, .slice C3 N0.length x3, .slice D3 O0.length y3, .slice q2 m0.length c2, .slice t2 n0.length d2, .int .i64 T0]] rfl zL ?_; (with_reducible refine (impl_PlanOk.calls k _ _ j0 _ _ l0 _ _ N0 _ _ O0 _ _ m0 _ _ n0 T0 f1 _ ?side1 ?side2 ?side3 ?side4 ?side5 ?side6 ?side7 ?side8 ?side9 ?side10 ?side11 ?side12 m5.out).mono ?_); (case side1 => refine (Kd.R_reads' (e := 3) (base := w.heap.size) (ok := fun k_ => (((((some k_ ≠ (.slice p2 l0.length b2 : Value).ownBlock ∧ (some k_ ≠ (.slice q2 m0.length c2 : Value).ownBlock ∧ some k_ ≠ (.slice t2 n0.length d2 : Value).ownBlock)) ∧ some k_ ≠ (.slice T2 I0.length U2 : Value).ownBlock) ∧ some k_ ≠ (.slice V2 J0.length X2 : Value).ownBlock) ∧ some k_ ≠ (.slice a3 L0.length b3 : Value).ownBlock) ∧ some k_ ≠ (.slice d3 M0.length e3 : Value).ownBlock)) (n := j0.length) (c := a2) ?_).2.2; exact (Kd.R_mono (zlR (Kd.R_types B.out l.out (by decide))) (fun _ h_ => h_.1))); (case side2 => exact (Kd.R_reads' B.out).2.1); (case side3 => refine (Kd.R_reads' (e := 3) (base := w.heap.size) (ok := fun k_ => (((((some k_ ≠ (.slice o2 j0.length a2 : Value).ownBlock ∧ (some k_ ≠ (.slice q2 m0.length c2 : Value).ownBlock ∧ some k_ ≠ (.slice t2 n0.length d2 : Value).ownBlock)) ∧ some k_ ≠ (.slice T2 I0.length U2 : Value).ownBlock) ∧ some k_ ≠ (.slice V2 J0.length X2 : Value).ownBlock) ∧ some k_ ≠ (.slice a3 L0.length b3 : Value).ownBlock) ∧ some k_ ≠ (.slice d3 M0.length e3 : Value).ownBlock)) (n := l0.length) (c := b2) ?_).2.2; exact (Kd.R_mono (zlR (Kd.R_types D.out l.out (by decide))) (fun _ h_ => h_.1))); (case side4 => exact (Kd.R_reads' D.out).2.1); (case side5 => refine (Kd.S_reads' (e := 71) (base := w.heap.size) (ok := fun k_ => ((((((some k_ ≠ (.slice o2 j0.length a2 : Value).ownBlock ∧ (some k_ ≠ (.slice p2 l0.length b2 : Value).ownBlock ∧ (some k_ ≠ (.slice q2 m0.length c2 : Value).ownBlock ∧ some k_ ≠ (.slice t2 n0.length d2 : Value).ownBlock))) ∧ some k_ ≠ (.slice T2 I0.length U2 : Value).ownBlock) ∧ some k_ ≠ (.slice V2 J0.length X2 : Value).ownBlock) ∧ some k_ ≠ (.slice j4 m2.length l4 : Value).ownBlock) ∧ some k_ ≠ (.slice a3 L0.length b3 : Value).ownBlock) ∧ some k_ ≠ (.slice d3 M0.length e3 : Value).ownBlock)) (n := N0.length) (c := x3) ?_).2.2; exact (Kd.S_mono (zlS (Kd.S_types J.out l.out (by decide))) (fun _ h_ => h_.1))); (case side6 => exact (Kd.S_reads' J.out).2.1); (case side7 => refine (Kd.R_reads' (e := 79) (base := w.heap.size) (ok := fun k_ => ((((((some k_ ≠ (.slice o2 j0.length a2 : Value).ownBlock ∧ (some k_ ≠ (.slice p2 l0.length b2 : Value).ownBlock ∧ (some k_ ≠ (.slice q2 m0.length c2 : Value).ownBlock ∧ some k_ ≠ (.slice t2 n0.length d2 : Value).ownBlock))) ∧ some k_ ≠ (.slice T2 I0.length U2 : Value).ownBlock) ∧ some k_ ≠ (.slice V2 J0.length X2 : Value).ownBlock) ∧ some k_ ≠ (.slice m4 n2.length n4 : Value).ownBlock) ∧ some k_ ≠ (.slice a3 L0.length b3 : Value).ownBlock) ∧ some k_ ≠ (.slice d3 M0.length e3 : Value).ownBlock)) (n := O0.length) (c := y3) ?_).2.2; exact (Kd.R_mono (zlR (Kd.R_types L.out l.out (by decide))) (fun _ h_ => h_.1))); (case side8 => exact (Kd.R_reads' L.out).2.1); (case side9 => refine (Kd.R_reads' (e := 3) (base := w.heap.size) (ok := fun k_ => (((((some k_ ≠ (.slice o2 j0.length a2 : Value).ownBlock ∧ (some k_ ≠ (.slice p2 l0.length b2 : Value).ownBlock ∧ some k_ ≠ (.slice t2 n0.length d2 : Value).ownBlock)) ∧ some k_ ≠ (.slice T2 I0.length U2 : Value).ownBlock) ∧ some k_ ≠ (.slice V2 J0.length X2 : Value).ownBlock) ∧ some k_ ≠ (.slice a3 L0.length b3 : Value).ownBlock) ∧ some k_ ≠ (.slice d3 M0.length e3 : Value).ownBlock)) (n := m0.length) (c := c2) ?_).2.2; exact (Kd.R_mono (zlR (Kd.R_types E.out l.out (by decide))) (fun _ h_ => h_.1))); (case side10 => exact (Kd.R_reads' E.out).2.1); (case side11 => refine (Kd.R_reads' (e := 3) (base := w.heap.size) (ok := fun k_ => (((((some k_ ≠ (.slice o2 j0.length a2 : Value).ownBlock ∧ (some k_ ≠ (.slice p2 l0.length b2 : Value).ownBlock ∧ some k_ ≠ (.slice q2 m0.length c2 : Value).ownBlock)) ∧ some k_ ≠ (.slice T2 I0.length U2 : Value).ownBlock) ∧ some k_ ≠ (.slice V2 J0.length X2 : Value).ownBlock) ∧ some k_ ≠ (.slice a3 L0.length b3 : Value).ownBlock) ∧ some k_ ≠ (.slice d3 M0.length e3 : Value).ownBlock)) (n := n0.length) (c := d2) ?_).2.2; exact (Kd.R_mono (zlR (Kd.R_types I.out l.out (by decide))) (fun _ h_ => h_.1))); (case side12 => exact (Kd.R_reads' I.out).2.1); rintro e V9 ⟨rfl, hb⟩; refine ⟨_, rfl, ?_⟩; have o0 := zK (Kd.R_below (Kd.R_mono (zlR (Kd.R_types q.out l.out (by decide))) (fun _ h_ => h_.1)) hb); have p0 := zK (Kd.R_below (Kd.R_mono (zlR (Kd.R_types u.out l.out (by decide))) (fun _ h_ => h_.1)) hb); have q0 := zK (Kd.S_below (Kd.S_mono (zlS (Kd.S_types z.out l.out (by decide))) (fun _ h_ => h_.1)) hb); have t0 := zK (Kd.R_below (Kd.R_mono (zlR (Kd.R_types A.out l.out (by decide))) (fun _ h_ => h_.1)) hb); have x0 := zK (Kd.R_below (Kd.R_mono (zlR (Kd.R_types x.out l.out (by decide))) (fun _ h_ => h_.1)) hb); have y0 := zK (Kd.R_below (Kd.R_mono (zlR (Kd.R_types y.out l.out (by decide))) (fun _ h_ => h_.1)) hb); have A0 := zK (Kd.R_below (Kd.R_mono (zlR (Kd.R_types B.out l.out (by decide))) (fun _ h_ => h_.1)) hb); have B0 := zK (Kd.R_below (Kd.R_mono (zlR (Kd.R_types D.out l.out (by decide))) (fun _ h_ => h_.1)) hb); have U0 := zK (Kd.S_below (Kd.S_mono (zlS (Kd.S_types J.out l.out (by decide))) (fun _ h_ => h_.1)) hb); have V0 := zK (Kd.R_below (Kd.R_mono (zlR (Kd.R_types L.out l.out (by decide))) (fun _ h_ => h_.1)) hb); have C0 := zK (Kd.R_below (Kd.R_mono (zlR (Kd.R_types E.out l.out (by decide))) (fun _ h_ => h_.1)) hb); have D0 := zK (Kd.R_below (Kd.R_mono (zlR (Kd.R_types I.out l.out (by decide))) (fun _ h_ => h_.1)) hb); have E0 := zK (zg (zV a) hb); have F0 := zK (zg (g := G0) (o := .cells #[.slice o2 j0.length a2, .slice p2 l0.length b2, .slice C3 N0.length x3, .slice D3 O0.length y3, .slice q2 m0.length c2, .slice t2 n0.length d2, .int .i64 T0] 36 (0, 0)) (zW l) hb); have S0 := z8 hb; revert o0 p0 q0 t0 x0 y0 A0 B0 U0 V0 C0 D0 E0 F0 S0; clear q u z A x y B D J L E I a l HB; intro q u z A x y B D J L E I a l HB))
   have o0 := zK (Kd.R_drew q.out)
   have p0 := zK (Kd.R_drew u.out)
   have q0 := zK (Kd.S_drew z.out)
   have t0 := zK (Kd.R_drew A.out)
   have x0 := zK (Kd.R_drew x.out)
   have y0 := zK (Kd.R_drew y.out)
   have A0 := zK (Kd.R_drew B.out)
   have B0 := zK (Kd.R_drew D.out)
   have U0 := zK (Kd.S_drew J.out)
   have V0 := zK (Kd.R_drew L.out)
   have C0 := zK (Kd.R_drew E.out)
   have D0 := zK (Kd.R_drew I.out)
   have E0 := zK (zd a.out)
   have F0 := zK (zd l.out)
   have S0 := zK (ze HB.out)
   revert o0 p0 q0 t0 x0 y0 A0 B0 U0 V0 C0 D0 E0 F0 S0
   clear q u z A x y B D J L E I a l HB
   intro q u z A x y B D J L E I a l HB
   refine start_ (n := 5) (S := fun w' => w'.cell? ⟨G0, 0, none⟩ = some (.slice o2 j0.length a2) ∧ w'.cell? ⟨G0, 1, none⟩ = some (.slice p2 l0.length b2) ∧ w'.cell? ⟨G0, 2, none⟩ = some (.slice C3 N0.length x3) ∧ w'.cell? ⟨G0, 3, none⟩ = some (.slice D3 O0.length y3) ∧ w'.cell? ⟨G0, 4, none⟩ = some (.slice q2 m0.length c2) ∧ w'.cell? ⟨G0, 5, none⟩ = some (.slice t2 n0.length d2) ∧ w'.cell? ⟨G0, 6, none⟩ = some (.int .i64 T0) ∧ w'.cell? ⟨R0, 0, none⟩ = some (.slice i1 a0.length j1) ∧ w'.cell? ⟨R0, 1, none⟩ = some (.slice l1 b0.length m1) ∧ w'.cell? ⟨R0, 2, none⟩ = some (.slice n1 c0.length o1) ∧ w'.cell? ⟨R0, 3, none⟩ = some (.slice p1 d0.length q1) ∧ w'.cell? ⟨R0, 4, none⟩ = some (.slice t1 e0.length x1) ∧ w'.cell? ⟨R0, 5, none⟩ = some (.slice y1 f0.length A1) ∧ w'.cell? ⟨R0, 6, none⟩ = some (.int .i64 g0)) (ds := []) (bl 5 0) (by kernel_rfl) rfl (by kernel_rfl) ⟨zy l 0, zy l 1, zy l 2, zy l 3, zy l 4, zy l 5, zy l 6, zy a 0, zy a 1, zy a 2, zy a 3, zy a 4, zy a 5, zy a 6⟩ (fun hHeld => ?_)
   generalize V9.drew = w63 at q u z A x y B D J L E I a l HB hHeld ⊢
   refine take_ (i := 0) (N := some 22) (v := ?_) (a' := ?_) (bl 5 1) rfl rfl (by kernel_rfl) (fun _ _ _ h => h) (Or.inl ⟨by rfl, ?_⟩) hHeld ?_ ?_
   rotate_left
   · rintro w' ⟨s0, s1, s2, s3, s4, s5, s6, s7, s8, s9, o4, p4, q4, t4⟩
     go_simp
     with_reducible rfl
   rotate_left
   · simp only [Act.put, zq1, zq2, zq3, i64_w, i32_w]
     rfl
   refine take_ (i := 1) (N := some 23) (v := ?_) (a' := ?_) (bl 5 3) rfl rfl (by kernel_rfl) (fun _ _ _ h => h) (Or.inl ⟨by rfl, ?_⟩) hHeld ?_ ?_
   rotate_left
   · rintro w' ⟨s0, s1, s2, s3, s4, s5, s6, s7, s8, s9, o4, p4, q4, t4⟩
     go_simp
     with_reducible rfl
   rotate_left
   · simp only [Act.put, zq1, zq2, zq3, i64_w, i32_w]
     rfl
   refine one_ (i := 2) (N := some 24) (bl 5 7) rfl rfl (by kernel_rfl) (by decide) (fun K hK => ?_)
   refine goes_ Try.func7 (by kernel_rfl) rfl #[.agg #[.slice i1 a0.length j1, .slice l1 b0.length m1, .slice n1 c0.length o1, .slice p1 d0.length q1, .slice t1 e0.length x1, .slice y1 f0.length A1, .int .i64 g0]] (by rfl) rfl rfl zL ?_
   refine (laws_toPlan.calls k _ _ a0 _ _ b0 _ _ c0 _ _ d0 _ _ e0 _ _ f0 g0 I2 J2 L2 M2 N2 O2 R2 _ (zS I1) J1.out (zS L1) M1.out (zS N1) O1.out (zS R1) S1.out (zS T1) U1.out (zS V1) X1.out n5.out).mono ?_
   rintro e w64 ⟨v580, v583, v586, v589, v592, v595, rfl, O, T, B1, C1, U, X, hb⟩
   refine ⟨_, rfl, ?_⟩
   have o0 := zK (Kd.R_mono (Kd.R_told (Kd.R_told (Kd.R_told (Kd.R_told (Kd.R_old (zkR q) hb) (Kd.R_base O)) (Kd.R_base T)) (Kd.R_base U)) (Kd.R_base X)) (fun _ h_ => h_.1))
   have p0 := zK (Kd.R_mono (Kd.R_told (Kd.R_told (Kd.R_told (Kd.R_told (Kd.R_old (zkR u) hb) (Kd.R_base O)) (Kd.R_base T)) (Kd.R_base U)) (Kd.R_base X)) (fun _ h_ => h_.1))
   have q0 := zK (Kd.S_mono (Kd.S_told (Kd.S_told (Kd.S_told (Kd.S_told (Kd.S_told (Kd.S_old (zkS z) hb) (Kd.R_base O)) (Kd.R_base T)) (Kd.S_base B1)) (Kd.R_base U)) (Kd.R_base X)) (fun _ h_ => h_.1))
   have t0 := zK (Kd.R_mono (Kd.R_told (Kd.R_told (Kd.R_told (Kd.R_told (Kd.R_told (Kd.R_old (zkR A) hb) (Kd.R_base O)) (Kd.R_base T)) (Kd.R_base C1)) (Kd.R_base U)) (Kd.R_base X)) (fun _ h_ => h_.1))
   have x0 := zK (Kd.R_mono (Kd.R_told (Kd.R_told (Kd.R_told (Kd.R_told (Kd.R_old (zkR x) hb) (Kd.R_base O)) (Kd.R_base T)) (Kd.R_base U)) (Kd.R_base X)) (fun _ h_ => h_.1))
   have y0 := zK (Kd.R_mono (Kd.R_told (Kd.R_told (Kd.R_told (Kd.R_told (Kd.R_old (zkR y) hb) (Kd.R_base O)) (Kd.R_base T)) (Kd.R_base U)) (Kd.R_base X)) (fun _ h_ => h_.1))
   have A0 := zK (Kd.R_mono (Kd.R_told (Kd.R_told (Kd.R_told (Kd.R_told (Kd.R_old (zkR B) hb) (Kd.R_base O)) (Kd.R_base T)) (Kd.R_base U)) (Kd.R_base X)) (fun _ h_ => h_.1))
   have B0 := zK (Kd.R_mono (Kd.R_told (Kd.R_told (Kd.R_told (Kd.R_told (Kd.R_old (zkR D) hb) (Kd.R_base O)) (Kd.R_base T)) (Kd.R_base U)) (Kd.R_base X)) (fun _ h_ => h_.1))
   have U0 := zK (Kd.S_mono (Kd.S_told (Kd.S_told (Kd.S_told (Kd.S_told (Kd.S_told (Kd.S_old (zkS J) hb) (Kd.R_base O)) (Kd.R_base T)) (Kd.S_base B1)) (Kd.R_base U)) (Kd.R_base X)) (fun _ h_ => h_.1))
   have V0 := zK (Kd.R_mono (Kd.R_told (Kd.R_told (Kd.R_told (Kd.R_told (Kd.R_told (Kd.R_old (zkR L) hb) (Kd.R_base O)) (Kd.R_base T)) (Kd.R_base C1)) (Kd.R_base U)) (Kd.R_base X)) (fun _ h_ => h_.1))
   have C0 := zK (Kd.R_mono (Kd.R_told (Kd.R_told (Kd.R_told (Kd.R_told (Kd.R_old (zkR E) hb) (Kd.R_base O)) (Kd.R_base T)) (Kd.R_base U)) (Kd.R_base X)) (fun _ h_ => h_.1))
   have D0 := zK (Kd.R_mono (Kd.R_told (Kd.R_told (Kd.R_told (Kd.R_told (Kd.R_old (zkR I) hb) (Kd.R_base O)) (Kd.R_base T)) (Kd.R_base U)) (Kd.R_base X)) (fun _ h_ => h_.1))
   have E0 := zK (Kd.R_lower (Kd.R_new' (Kd.R_new' (Kd.R_new' (Kd.R_new' (Kd.R_new' (Kd.R_new' (Kd.R_new' (Kd.R_new' O (Kd.R_lt (zkR q))) (Kd.R_lt (zkR u))) (Kd.R_lt (zkR x))) (Kd.R_lt (zkR y))) (Kd.R_lt (zkR B))) (Kd.R_lt (zkR D))) (Kd.R_lt (zkR E))) (Kd.R_lt (zkR I))) (zz zB))
   have F0 := zK (Kd.R_lower (Kd.R_new' (Kd.R_new' (Kd.R_new' (Kd.R_new' (Kd.R_new' (Kd.R_new' (Kd.R_new' (Kd.R_new' T (Kd.R_lt (zkR q))) (Kd.R_lt (zkR u))) (Kd.R_lt (zkR x))) (Kd.R_lt (zkR y))) (Kd.R_lt (zkR B))) (Kd.R_lt (zkR D))) (Kd.R_lt (zkR E))) (Kd.R_lt (zkR I))) (zz zB))
   have S0 := zK (Kd.S_lower (Kd.S_new' (Kd.S_new' (Kd.S_new' (Kd.S_new' (Kd.S_new' (Kd.S_new' (Kd.S_new' (Kd.S_new' (Kd.S_new' (Kd.S_new' B1 (Kd.R_lt (zkR q))) (Kd.R_lt (zkR u))) (Kd.S_lt (zkS z))) (Kd.R_lt (zkR x))) (Kd.R_lt (zkR y))) (Kd.R_lt (zkR B))) (Kd.R_lt (zkR D))) (Kd.S_lt (zkS J))) (Kd.R_lt (zkR E))) (Kd.R_lt (zkR I))) (zz zB))
   have D1 := zK (Kd.R_lower (Kd.R_new' (Kd.R_new' (Kd.R_new' (Kd.R_new' (Kd.R_new' (Kd.R_new' (Kd.R_new' (Kd.R_new' (Kd.R_new' (Kd.R_new' C1 (Kd.R_lt (zkR q))) (Kd.R_lt (zkR u))) (Kd.R_lt (zkR A))) (Kd.R_lt (zkR x))) (Kd.R_lt (zkR y))) (Kd.R_lt (zkR B))) (Kd.R_lt (zkR D))) (Kd.R_lt (zkR L))) (Kd.R_lt (zkR E))) (Kd.R_lt (zkR I))) (zz zB))
   have E1 := zK (Kd.R_lower (Kd.R_new' (Kd.R_new' (Kd.R_new' (Kd.R_new' (Kd.R_new' (Kd.R_new' (Kd.R_new' (Kd.R_new' U (Kd.R_lt (zkR q))) (Kd.R_lt (zkR u))) (Kd.R_lt (zkR x))) (Kd.R_lt (zkR y))) (Kd.R_lt (zkR B))) (Kd.R_lt (zkR D))) (Kd.R_lt (zkR E))) (Kd.R_lt (zkR I))) (zz zB))
   have F1 := zK (Kd.R_lower (Kd.R_new' (Kd.R_new' (Kd.R_new' (Kd.R_new' (Kd.R_new' (Kd.R_new' (Kd.R_new' (Kd.R_new' X (Kd.R_lt (zkR q))) (Kd.R_lt (zkR u))) (Kd.R_lt (zkR x))) (Kd.R_lt (zkR y))) (Kd.R_lt (zkR B))) (Kd.R_lt (zkR D))) (Kd.R_lt (zkR E))) (Kd.R_lt (zkR I))) (zz zB))
   have G1 := z7 a hb
   have f3 := z7 l hb
   have g3 := z8 hb
   revert o0 p0 q0 t0 x0 y0 A0 B0 U0 V0 C0 D0 E0 F0 S0 D1 E1 F1 G1 f3 g3
   clear q u z A x y B D J L E I a l HB
   intro q u z A x y B D J L E I X0 a1 b1 c1 d1 e1 a l HB
   (try clear hb)
   (try clear hb2)
   (try clear hk)
   (try clear hi)
   (try clear O)
   (try clear T)
   (try clear B1)
   (try clear C1)
   (try clear U)
   (try clear X)
   obtain ⟨X5, a6, x4⟩ := Kd.R_slice X0.out
   (first | subst x4 | (injection x4 with f1_ f2_ f3_; have f4_ := f1_.symm; have f5_ := f3_.symm; clear f1_ f2_ f3_; subst f4_; subst f5_))
   obtain ⟨b6, c6, y4⟩ := Kd.R_slice a1.out
   (first | subst y4 | (injection y4 with f1_ f2_ f3_; have f4_ := f1_.symm; have f5_ := f3_.symm; clear f1_ f2_ f3_; subst f4_; subst f5_))
   obtain ⟨d6, e6, A4⟩ := Kd.S_slice b1.out
   (first | subst A4 | (injection A4 with f1_ f2_ f3_; have f4_ := f1_.symm; have f5_ := f3_.symm; clear f1_ f2_ f3_; subst f4_; subst f5_))
   obtain ⟨f6, g6, B4⟩ := Kd.R_slice c1.out
   (first | subst B4 | (injection B4 with f1_ f2_ f3_; have f4_ := f1_.symm; have f5_ := f3_.symm; clear f1_ f2_ f3_; subst f4_; subst f5_))
   obtain ⟨i6, j6, C4⟩ := Kd.R_slice d1.out
   (first | subst C4 | (injection C4 with f1_ f2_ f3_; have f4_ := f1_.symm; have f5_ := f3_.symm; clear f1_ f2_ f3_; subst f4_; subst f5_))
   obtain ⟨l6, m6, D4⟩ := Kd.R_slice e1.out
   (first | subst D4 | (injection D4 with f1_ f2_ f3_; have f4_ := f1_.symm; have f5_ := f3_.symm; clear f1_ f2_ f3_; subst f4_; subst f5_))
   refine hK.out _ _ ⟨zy l 0, zy l 1, zy l 2, zy l 3, zy l 4, zy l 5, zy l 6, zy a 0, zy a 1, zy a 2, zy a 3, zy a 4, zy a 5, zy a 6⟩ (fun hHeld => ?_)
   clear hK K
   refine zU 24 ?_
   refine one_ (i := 3) (N := some 25) (bl 5 15) rfl rfl (by kernel_rfl) (by decide) (fun K hK => ?_)
   refine goes_ Try.func9 (by kernel_rfl) rfl #[.agg #[.slice o2 j0.length a2, .slice p2 l0.length b2, .slice C3 N0.length x3, .slice D3 O0.length y3, .slice q2 m0.length c2, .slice t2 n0.length d2, .int .i64 T0], .agg #[.slice X5 I2.length a6, .slice b6 J2.length c6, .slice d6 L2.length e6, .slice f6 M2.length g6, .slice i6 N2.length j6, .slice l6 O2.length m6, .int .i64 R2]] (by rfl) rfl rfl zL ?_
   refine (laws_eqPlan.calls k _ _ j0 _ _ l0 _ _ N0 _ _ O0 _ _ m0 _ _ n0 T0 _ _ I2 _ _ J2 _ _ L2 _ _ M2 _ _ N2 _ _ O2 R2 true _ (zC (Kd.R_reads' B.out).2.2) ((Kd.R_reads' B.out).2.1) (zC (Kd.R_reads' D.out).2.2) ((Kd.R_reads' D.out).2.1) (zC (Kd.S_reads' J.out).2.2) ((Kd.S_reads' J.out).2.1) (zC (Kd.R_reads' L.out).2.2) ((Kd.R_reads' L.out).2.1) (zC (Kd.R_reads' E.out).2.2) ((Kd.R_reads' E.out).2.1) (zC (Kd.R_reads' I.out).2.2) ((Kd.R_reads' I.out).2.1) (zC (Kd.R_reads' X0.out).2.2) ((Kd.R_reads' X0.out).2.1) (zC (Kd.R_reads' a1.out).2.2) ((Kd.R_reads' a1.out).2.1) (zC (Kd.S_reads' b1.out).2.2) ((Kd.S_reads' b1.out).2.1) (zC (Kd.R_reads' c1.out).2.2) ((Kd.R_reads' c1.out).2.1) (zC (Kd.R_reads' d1.out).2.2) ((Kd.R_reads' d1.out).2.1) (zC (Kd.R_reads' e1.out).2.2) ((Kd.R_reads' e1.out).2.1) o5.out).mono ?_
   rintro e w71 ⟨rfl, hb⟩
   refine ⟨_, rfl, ?_⟩
   have o0 := zK (Kd.R_below (zkR q) hb)
   have p0 := zK (Kd.R_below (zkR u) hb)
   have q0 := zK (Kd.S_below (zkS z) hb)
   have t0 := zK (Kd.R_below (zkR A) hb)
   have x0 := zK (Kd.R_below (zkR x) hb)
   have y0 := zK (Kd.R_below (zkR y) hb)
   have A0 := zK (Kd.R_below (zkR B) hb)
   have B0 := zK (Kd.R_below (zkR D) hb)
   have U0 := zK (Kd.S_below (zkS J) hb)
   have V0 := zK (Kd.R_below (zkR L) hb)
   have C0 := zK (Kd.R_below (zkR E) hb)
   have D0 := zK (Kd.R_below (zkR I) hb)
   have E0 := zK (Kd.R_below (zkR X0) hb)
   have F0 := zK (Kd.R_below (zkR a1) hb)
   have S0 := zK (Kd.S_below (zkS b1) hb)
   have D1 := zK (Kd.R_below (zkR c1) hb)
   have E1 := zK (Kd.R_below (zkR d1) hb)
   have F1 := zK (Kd.R_below (zkR e1) hb)
   have G1 := z7 a hb
   have f3 := z7 l hb
   have g3 := z8 hb
   revert o0 p0 q0 t0 x0 y0 A0 B0 U0 V0 C0 D0 E0 F0 S0 D1 E1 F1 G1 f3 g3
   clear q u z A x y B D J L E I X0 a1 b1 c1 d1 e1 a l HB
   intro q u z A x y B D J L E I X0 a1 b1 c1 d1 e1 a l HB
   (try clear hb)
   (try clear hb2)
   (try clear hk)
   (try clear hi)
   refine hK.out _ _ ⟨zy l 0, zy l 1, zy l 2, zy l 3, zy l 4, zy l 5, zy l 6, zy a 0, zy a 1, zy a 2, zy a 3, zy a 4, zy a 5, zy a 6⟩ (fun hHeld => ?_)
   clear hK K
   refine zU 25 ?_
   refine pure_ (i := 4) (N := some 26) (v := ?_) (a' := ?_) (bl 5 31) rfl rfl (by kernel_rfl) (fun _ _ _ h => h) (Or.inl ⟨by rfl, ?_⟩) ?_ ?_
   rotate_left
   · intro w'
     go_simp
     with_reducible rfl
   rotate_left
   · simp only [Act.put, zq1, zq2, zq3, i64_w, i32_w]
     rfl
   refine done_ (by kernel_rfl) ?_
   try go_wp2
   go_ret
   exact ⟨zE, zB⟩
 replace X3 := Bool.eq_false_iff.mpr X3
 subst X3
 rw [if_neg (show ¬ (false = true) by decide)] at H
 obtain rfl := z5 H
 all_goals go_enter Try.func3, Try.ntmps3
 all_goals try go_wp2_with (first | ((with_reducible refine gd 1 rfl ?_); refine zJ 1 #[.slice i1 a0.length j1, .slice l1 b0.length m1, .slice n1 c0.length o1, .slice p1 d0.length q1, .slice t1 e0.length x1, .slice y1 f0.length A1, .int .i64 g0] 28 ?_; intro R0 hg w72 hbox hb; have o0 := z8 hb; have p0 := zK (hbox); have q0 := z9 hg; have t0 := z9 hg; revert o0 p0 q0 t0; clear HB; intro HB a R4 S4; clear hb hbox hg; obtain ⟨m8, n8, o8, p8, q8, t8, x8, y8, B8, C8, D8, E8, F8, G8⟩ := zc7 a) | ((with_reducible refine gc 5 rfl ?_); refine zF 9 Try.func5 #[.agg #[.slice i1 a0.length j1, .slice l1 b0.length m1, .slice n1 c0.length o1, .slice p1 d0.length q1, .slice t1 e0.length x1, .slice y1 f0.length A1, .int .i64 g0], .int .i64 1048576] rfl zL ?_; refine (laws_szPlan.calls k _ _ a0 _ _ b0 _ _ c0 _ _ d0 _ _ e0 _ _ f0 g0 1048576 t3 _ (zS I1) J1.out (zS L1) M1.out (zS N1) O1.out (zS R1) S1.out (zS T1) U1.out (zS V1) X1.out A2.out).mono ?_; rintro e w74 ⟨rfl, hb⟩; refine ⟨_, rfl, ?_⟩; have o0 := z7 a hb; have p0 := z8 hb; revert o0 p0; clear a HB; intro a HB; obtain ⟨I8, J8, L8, M8, N8, O8, R8, S8, T8, U8, V8, X8, a9, b9⟩ := zc7 a) | ((with_reducible refine gc 7 rfl ?_); refine zF 13 Try.func7 #[.agg #[.slice i1 a0.length j1, .slice l1 b0.length m1, .slice n1 c0.length o1, .slice p1 d0.length q1, .slice t1 e0.length x1, .slice y1 f0.length A1, .int .i64 g0]] rfl zL ?_; refine (laws_toPlan.calls k _ _ a0 _ _ b0 _ _ c0 _ _ d0 _ _ e0 _ _ f0 g0 I0 J0 m2 n2 L0 M0 G2 _ (zS I1) J1.out (zS L1) M1.out (zS N1) O1.out (zS R1) S1.out (zS T1) U1.out (zS V1) X1.out A7.out).mono ?_; rintro e w76 ⟨v539, v542, v545, v548, v551, v554, rfl, O, T, B1, C1, U, X, hb⟩; refine ⟨_, rfl, ?_⟩; have o0 := zK (Kd.R_lower O (zz zB)); have p0 := zK (Kd.R_lower T (zz zB)); have q0 := zK (Kd.S_lower B1 (zz zB)); have t0 := zK (Kd.R_lower C1 (zz zB)); have x0 := zK (Kd.R_lower U (zz zB)); have y0 := zK (Kd.R_lower X (zz zB)); have A0 := z7 a hb; have B0 := z8 hb; revert o0 p0 q0 t0 x0 y0 A0 B0; clear a HB; intro q u z A x y a HB; obtain ⟨i3, j3, n6⟩ := Kd.R_slice q.out; subst n6; obtain ⟨l3, m3, o6⟩ := Kd.R_slice u.out; subst o6; obtain ⟨E4, F4, p6⟩ := Kd.S_slice z.out; subst p6; obtain ⟨G4, I4, q6⟩ := Kd.R_slice A.out; subst q6; obtain ⟨n3, o3, t6⟩ := Kd.R_slice x.out; subst t6; obtain ⟨p3, q3, x6⟩ := Kd.R_slice y.out; subst x6) | ((with_reducible refine gc 6 rfl ?_); refine zF 14 Try.func6 #[.agg #[.slice i3 I0.length j3, .slice l3 J0.length m3, .slice E4 m2.length F4, .slice G4 n2.length I4, .slice n3 L0.length o3, .slice p3 M0.length q3, .int .i64 G2]] rfl zL ?_; refine (spec_PlanOk.calls k _ _ I0 _ _ J0 _ _ m2 _ _ n2 _ _ L0 _ _ M0 G2 g1 _ (zC (Kd.R_reads' q.out).2.2) ((Kd.R_reads' q.out).2.1) (zC (Kd.R_reads' u.out).2.2) ((Kd.R_reads' u.out).2.1) (zC (Kd.S_reads' z.out).2.2) ((Kd.S_reads' z.out).2.1) (zC (Kd.R_reads' A.out).2.2) ((Kd.R_reads' A.out).2.1) (zC (Kd.R_reads' x.out).2.2) ((Kd.R_reads' x.out).2.1) (zC (Kd.R_reads' y.out).2.2) ((Kd.R_reads' y.out).2.1) A8.out).mono ?_; rintro e w83 ⟨rfl, hb⟩; refine ⟨_, rfl, ?_⟩; have o0 := zK (Kd.R_below (zkR q) hb); have p0 := zK (Kd.R_below (zkR u) hb); have q0 := zK (Kd.S_below (zkS z) hb); have t0 := zK (Kd.R_below (zkR A) hb); have x0 := zK (Kd.R_below (zkR x) hb); have y0 := zK (Kd.R_below (zkR y) hb); have A0 := z7 a hb; have B0 := z8 hb; revert o0 p0 q0 t0 x0 y0 A0 B0; clear q u z A x y a HB; intro q u z A x y a HB; obtain ⟨c9, d9, e9, f9, g9, i9, j9, l9, m9, n9, o9, p9, q9, t9⟩ := zc7 a) | ((with_reducible refine gc 7 rfl ?_); refine zF 16 Try.func7 #[.agg #[.slice i1 a0.length j1, .slice l1 b0.length m1, .slice n1 c0.length o1, .slice p1 d0.length q1, .slice t1 e0.length x1, .slice y1 f0.length A1, .int .i64 g0]] rfl zL ?_; refine (laws_toPlan.calls k _ _ a0 _ _ b0 _ _ c0 _ _ d0 _ _ e0 _ _ f0 g0 j0 l0 N0 O0 m0 n0 T0 _ (zS I1) J1.out (zS L1) M1.out (zS N1) O1.out (zS R1) S1.out (zS T1) U1.out (zS V1) X1.out A9.out).mono ?_; rintro e w85 ⟨v559, v562, v565, v568, v571, v574, rfl, O, T, B1, C1, U, X, hb⟩; refine ⟨_, rfl, ?_⟩; have o0 := zK (Kd.R_mono (Kd.R_told (Kd.R_told (Kd.R_told (Kd.R_told (Kd.R_old (zkR q) hb) (Kd.R_base O)) (Kd.R_base T)) (Kd.R_base U)) (Kd.R_base X)) (fun _ h_ => h_.1)); have p0 := zK (Kd.R_mono (Kd.R_told (Kd.R_told (Kd.R_told (Kd.R_told (Kd.R_old (zkR u) hb) (Kd.R_base O)) (Kd.R_base T)) (Kd.R_base U)) (Kd.R_base X)) (fun _ h_ => h_.1)); have q0 := zK (Kd.S_mono (Kd.S_told (Kd.S_told (Kd.S_told (Kd.S_told (Kd.S_told (Kd.S_old (zkS z) hb) (Kd.R_base O)) (Kd.R_base T)) (Kd.S_base B1)) (Kd.R_base U)) (Kd.R_base X)) (fun _ h_ => h_.1)); have t0 := zK (Kd.R_mono (Kd.R_told (Kd.R_told (Kd.R_told (Kd.R_told (Kd.R_told (Kd.R_old (zkR A) hb) (Kd.R_base O)) (Kd.R_base T)) (Kd.R_base C1)) (Kd.R_base U)) (Kd.R_base X)) (fun _ h_ => h_.1)); have x0 := zK (Kd.R_mono (Kd.R_told (Kd.R_told (Kd.R_told (Kd.R_told (Kd.R_old (zkR x) hb) (Kd.R_base O)) (Kd.R_base T)) (Kd.R_base U)) (Kd.R_base X)) (fun _ h_ => h_.1)); have y0 := zK (Kd.R_mono (Kd.R_told (Kd.R_told (Kd.R_told (Kd.R_told (Kd.R_old (zkR y) hb) (Kd.R_base O)) (Kd.R_base T)) (Kd.R_base U)) (Kd.R_base X)) (fun _ h_ => h_.1)); have A0 := zK (Kd.R_lower (Kd.R_new' (Kd.R_new' (Kd.R_new' (Kd.R_new' O (Kd.R_lt (zkR q))) (Kd.R_lt (zkR u))) (Kd.R_lt (zkR x))) (Kd.R_lt (zkR y))) (zz zB)); have B0 := zK (Kd.R_lower (Kd.R_new' (Kd.R_new' (Kd.R_new' (Kd.R_new' T (Kd.R_lt (zkR q))) (Kd.R_lt (zkR u))) (Kd.R_lt (zkR x))) (Kd.R_lt (zkR y))) (zz zB)); have U0 := zK (Kd.S_lower (Kd.S_new' (Kd.S_new' (Kd.S_new' (Kd.S_new' (Kd.S_new' B1 (Kd.R_lt (zkR q))) (Kd.R_lt (zkR u))) (Kd.S_lt (zkS z))) (Kd.R_lt (zkR x))) (Kd.R_lt (zkR y))) (zz zB)); have V0 := zK (Kd.R_lower (Kd.R_new' (Kd.R_new' (Kd.R_new' (Kd.R_new' (Kd.R_new' C1 (Kd.R_lt (zkR q))) (Kd.R_lt (zkR u))) (Kd.R_lt (zkR A))) (Kd.R_lt (zkR x))) (Kd.R_lt (zkR y))) (zz zB)); have C0 := zK (Kd.R_lower (Kd.R_new' (Kd.R_new' (Kd.R_new' (Kd.R_new' U (Kd.R_lt (zkR q))) (Kd.R_lt (zkR u))) (Kd.R_lt (zkR x))) (Kd.R_lt (zkR y))) (zz zB)); have D0 := zK (Kd.R_lower (Kd.R_new' (Kd.R_new' (Kd.R_new' (Kd.R_new' X (Kd.R_lt (zkR q))) (Kd.R_lt (zkR u))) (Kd.R_lt (zkR x))) (Kd.R_lt (zkR y))) (zz zB)); have E0 := z7 a hb; have F0 := z8 hb; revert o0 p0 q0 t0 x0 y0 A0 B0 U0 V0 C0 D0 E0 F0; clear q u z A x y a HB; intro q u z A x y B D J L E I a HB) | ((with_reducible refine gd 5 rfl ?_); refine zJ 5 #[.slice none 0 0, .slice none 0 0, .slice none 0 0, .slice none 0 0, .slice none 0 0, .slice none 0 0, .int .i64 0] 36 ?_; intro G0 hg w86 hbox hb; have o0 := zK (Kd.R_below (zkR q) hb); have p0 := zK (Kd.R_below (zkR u) hb); have q0 := zK (Kd.S_below (zkS z) hb); have t0 := zK (Kd.R_below (zkR A) hb); have x0 := zK (Kd.R_below (zkR x) hb); have y0 := zK (Kd.R_below (zkR y) hb); have A0 := zK (Kd.R_below (zkR B) hb); have B0 := zK (Kd.R_below (zkR D) hb); have U0 := zK (Kd.S_below (zkS J) hb); have V0 := zK (Kd.R_below (zkR L) hb); have C0 := zK (Kd.R_below (zkR E) hb); have D0 := zK (Kd.R_below (zkR I) hb); have E0 := z7 a hb; have F0 := z8 hb; have S0 := zK (hbox); have D1 := z9 hg; have E1 := z9 hg; have F1 := zHH hg a; have G1 := zGG hg a; revert o0 p0 q0 t0 x0 y0 A0 B0 U0 V0 C0 D0 E0 F0 S0 D1 E1 F1 G1; clear q u z A x y B D J L E I a HB; intro q u z A x y B D J L E I a HB l T4 U4 E2 F2; clear hb hbox hg; obtain ⟨x2, e2, y6⟩ := Kd.R_slice B.out; subst y6; have a0d := F2.out; have a0e := E2.out; obtain ⟨x9, y9, B9, C9, D9, E9, F9, G9, I9, J9, L9, M9, N9, O9⟩ := zc7 l; obtain ⟨y2, f2, A6⟩ := Kd.R_slice D.out; subst A6; obtain ⟨E3, A3, B6⟩ := Kd.S_slice J.out; subst B6; obtain ⟨F3, B3, C6⟩ := Kd.R_slice L.out; subst C6; obtain ⟨B2, g2, D6⟩ := Kd.R_slice E.out; subst D6; obtain ⟨C2, i2, E6⟩ := Kd.R_slice I.out; subst E6) | ((with_reducible refine gc 8 rfl ?_); refine zF 18 Try.func8 #[.agg #[.slice x2 j0.length e2, .slice y2 l0.length f2, .slice E3 N0.length A3, .slice F3 O0.length B3, .slice B2 m0.length g2, .slice C2 n0.length i2, .int .i64 T0]] rfl zL ?_; (with_reducible refine (impl_PlanOk.calls k _ _ j0 _ _ l0 _ _ N0 _ _ O0 _ _ m0 _ _ n0 T0 f1 _ ?side1 ?side2 ?side3 ?side4 ?side5 ?side6 ?side7 ?side8 ?side9 ?side10 ?side11 ?side12 m5.out).mono ?_); (case side1 => refine (Kd.R_reads' (e := 3) (base := w.heap.size) (ok := fun k_ => (((((some k_ ≠ (.slice y2 l0.length f2 : Value).ownBlock ∧ (some k_ ≠ (.slice B2 m0.length g2 : Value).ownBlock ∧ some k_ ≠ (.slice C2 n0.length i2 : Value).ownBlock)) ∧ some k_ ≠ (.slice i3 I0.length j3 : Value).ownBlock) ∧ some k_ ≠ (.slice l3 J0.length m3 : Value).ownBlock) ∧ some k_ ≠ (.slice n3 L0.length o3 : Value).ownBlock) ∧ some k_ ≠ (.slice p3 M0.length q3 : Value).ownBlock)) (n := j0.length) (c := e2) ?_).2.2; exact (Kd.R_mono (zlR (Kd.R_types B.out l.out (by decide))) (fun _ h_ => h_.1))); (case side2 => exact (Kd.R_reads' B.out).2.1); (case side3 => refine (Kd.R_reads' (e := 3) (base := w.heap.size) (ok := fun k_ => (((((some k_ ≠ (.slice x2 j0.length e2 : Value).ownBlock ∧ (some k_ ≠ (.slice B2 m0.length g2 : Value).ownBlock ∧ some k_ ≠ (.slice C2 n0.length i2 : Value).ownBlock)) ∧ some k_ ≠ (.slice i3 I0.length j3 : Value).ownBlock) ∧ some k_ ≠ (.slice l3 J0.length m3 : Value).ownBlock) ∧ some k_ ≠ (.slice n3 L0.length o3 : Value).ownBlock) ∧ some k_ ≠ (.slice p3 M0.length q3 : Value).ownBlock)) (n := l0.length) (c := f2) ?_).2.2; exact (Kd.R_mono (zlR (Kd.R_types D.out l.out (by decide))) (fun _ h_ => h_.1))); (case side4 => exact (Kd.R_reads' D.out).2.1); (case side5 => refine (Kd.S_reads' (e := 71) (base := w.heap.size) (ok := fun k_ => ((((((some k_ ≠ (.slice x2 j0.length e2 : Value).ownBlock ∧ (some k_ ≠ (.slice y2 l0.length f2 : Value).ownBlock ∧ (some k_ ≠ (.slice B2 m0.length g2 : Value).ownBlock ∧ some k_ ≠ (.slice C2 n0.length i2 : Value).ownBlock))) ∧ some k_ ≠ (.slice i3 I0.length j3 : Value).ownBlock) ∧ some k_ ≠ (.slice l3 J0.length m3 : Value).ownBlock) ∧ some k_ ≠ (.slice E4 m2.length F4 : Value).ownBlock) ∧ some k_ ≠ (.slice n3 L0.length o3 : Value).ownBlock) ∧ some k_ ≠ (.slice p3 M0.length q3 : Value).ownBlock)) (n := N0.length) (c := A3) ?_).2.2; exact (Kd.S_mono (zlS (Kd.S_types J.out l.out (by decide))) (fun _ h_ => h_.1))); (case side6 => exact (Kd.S_reads' J.out).2.1); (case side7 => refine (Kd.R_reads' (e := 79) (base := w.heap.size) (ok := fun k_ => ((((((some k_ ≠ (.slice x2 j0.length e2 : Value).ownBlock ∧ (some k_ ≠ (.slice y2 l0.length f2 : Value).ownBlock ∧ (some k_ ≠ (.slice B2 m0.length g2 : Value).ownBlock ∧ some k_ ≠ (.slice C2 n0.length i2 : Value).ownBlock))) ∧ some k_ ≠ (.slice i3 I0.length j3 : Value).ownBlock) ∧ some k_ ≠ (.slice l3 J0.length m3 : Value).ownBlock) ∧ some k_ ≠ (.slice G4 n2.length I4 : Value).ownBlock) ∧ some k_ ≠ (.slice n3 L0.length o3 : Value).ownBlock) ∧ some k_ ≠ (.slice p3 M0.length q3 : Value).ownBlock)) (n := O0.length) (c := B3) ?_).2.2; exact (Kd.R_mono (zlR (Kd.R_types L.out l.out (by decide))) (fun _ h_ => h_.1))); (case side8 => exact (Kd.R_reads' L.out).2.1); (case side9 => refine (Kd.R_reads' (e := 3) (base := w.heap.size) (ok := fun k_ => (((((some k_ ≠ (.slice x2 j0.length e2 : Value).ownBlock ∧ (some k_ ≠ (.slice y2 l0.length f2 : Value).ownBlock ∧ some k_ ≠ (.slice C2 n0.length i2 : Value).ownBlock)) ∧ some k_ ≠ (.slice i3 I0.length j3 : Value).ownBlock) ∧ some k_ ≠ (.slice l3 J0.length m3 : Value).ownBlock) ∧ some k_ ≠ (.slice n3 L0.length o3 : Value).ownBlock) ∧ some k_ ≠ (.slice p3 M0.length q3 : Value).ownBlock)) (n := m0.length) (c := g2) ?_).2.2; exact (Kd.R_mono (zlR (Kd.R_types E.out l.out (by decide))) (fun _ h_ => h_.1))); (case side10 => exact (Kd.R_reads' E.out).2.1); (case side11 => refine (Kd.R_reads' (e := 3) (base := w.heap.size) (ok := fun k_ => (((((some k_ ≠ (.slice x2 j0.length e2 : Value).ownBlock ∧ (some k_ ≠ (.slice y2 l0.length f2 : Value).ownBlock ∧ some k_ ≠ (.slice B2 m0.length g2 : Value).ownBlock)) ∧ some k_ ≠ (.slice i3 I0.length j3 : Value).ownBlock) ∧ some k_ ≠ (.slice l3 J0.length m3 : Value).ownBlock) ∧ some k_ ≠ (.slice n3 L0.length o3 : Value).ownBlock) ∧ some k_ ≠ (.slice p3 M0.length q3 : Value).ownBlock)) (n := n0.length) (c := i2) ?_).2.2; exact (Kd.R_mono (zlR (Kd.R_types I.out l.out (by decide))) (fun _ h_ => h_.1))); (case side12 => exact (Kd.R_reads' I.out).2.1); rintro e X9 ⟨rfl, hb⟩; refine ⟨_, rfl, ?_⟩; have o0 := zK (Kd.R_below (Kd.R_mono (zlR (Kd.R_types q.out l.out (by decide))) (fun _ h_ => h_.1)) hb); have p0 := zK (Kd.R_below (Kd.R_mono (zlR (Kd.R_types u.out l.out (by decide))) (fun _ h_ => h_.1)) hb); have q0 := zK (Kd.S_below (Kd.S_mono (zlS (Kd.S_types z.out l.out (by decide))) (fun _ h_ => h_.1)) hb); have t0 := zK (Kd.R_below (Kd.R_mono (zlR (Kd.R_types A.out l.out (by decide))) (fun _ h_ => h_.1)) hb); have x0 := zK (Kd.R_below (Kd.R_mono (zlR (Kd.R_types x.out l.out (by decide))) (fun _ h_ => h_.1)) hb); have y0 := zK (Kd.R_below (Kd.R_mono (zlR (Kd.R_types y.out l.out (by decide))) (fun _ h_ => h_.1)) hb); have A0 := zK (Kd.R_below (Kd.R_mono (zlR (Kd.R_types B.out l.out (by decide))) (fun _ h_ => h_.1)) hb); have B0 := zK (Kd.R_below (Kd.R_mono (zlR (Kd.R_types D.out l.out (by decide))) (fun _ h_ => h_.1)) hb); have U0 := zK (Kd.S_below (Kd.S_mono (zlS (Kd.S_types J.out l.out (by decide))) (fun _ h_ => h_.1)) hb); have V0 := zK (Kd.R_below (Kd.R_mono (zlR (Kd.R_types L.out l.out (by decide))) (fun _ h_ => h_.1)) hb); have C0 := zK (Kd.R_below (Kd.R_mono (zlR (Kd.R_types E.out l.out (by decide))) (fun _ h_ => h_.1)) hb); have D0 := zK (Kd.R_below (Kd.R_mono (zlR (Kd.R_types I.out l.out (by decide))) (fun _ h_ => h_.1)) hb); have E0 := zK (zg (zV a) hb); have F0 := zK (zg (g := G0) (o := .cells #[.slice x2 j0.length e2, .slice y2 l0.length f2, .slice E3 N0.length A3, .slice F3 O0.length B3, .slice B2 m0.length g2, .slice C2 n0.length i2, .int .i64 T0] 36 (0, 0)) (zW l) hb); have S0 := z8 hb; revert o0 p0 q0 t0 x0 y0 A0 B0 U0 V0 C0 D0 E0 F0 S0; clear q u z A x y B D J L E I a l HB; intro q u z A x y B D J L E I a l HB))
 · have o0 := zK (Kd.R_drew q.out)
   have p0 := zK (Kd.R_drew u.out)
   have q0 := zK (Kd.S_drew z.out)
   have t0 := zK (Kd.R_drew A.out)
   have x0 := zK (Kd.R_drew x.out)
   have y0 := zK (Kd.R_drew y.out)
   have A0 := zK (Kd.R_drew B.out)
   have B0 := zK (Kd.R_drew D.out)
   have U0 := zK (Kd.S_drew J.out)
   have V0 := zK (Kd.R_drew L.out)
   have C0 := zK (Kd.R_drew E.out)
   have D0 := zK (Kd.R_drew I.out)
   have E0 := zK (zd a.out)
   have F0 := zK (zd l.out)
   have S0 := zK (ze HB.out)
   revert o0 p0 q0 t0 x0 y0 A0 B0 U0 V0 C0 D0 E0 F0 S0
   clear q u z A x y B D J L E I a l HB
   intro q u z A x y B D J L E I a l HB
   refine start_ (n := 5) (S := fun w' => w'.cell? ⟨G0, 0, none⟩ = some (.slice x2 j0.length e2) ∧ w'.cell? ⟨G0, 1, none⟩ = some (.slice y2 l0.length f2) ∧ w'.cell? ⟨G0, 2, none⟩ = some (.slice E3 N0.length A3) ∧ w'.cell? ⟨G0, 3, none⟩ = some (.slice F3 O0.length B3) ∧ w'.cell? ⟨G0, 4, none⟩ = some (.slice B2 m0.length g2) ∧ w'.cell? ⟨G0, 5, none⟩ = some (.slice C2 n0.length i2) ∧ w'.cell? ⟨G0, 6, none⟩ = some (.int .i64 T0) ∧ w'.cell? ⟨R0, 0, none⟩ = some (.slice i1 a0.length j1) ∧ w'.cell? ⟨R0, 1, none⟩ = some (.slice l1 b0.length m1) ∧ w'.cell? ⟨R0, 2, none⟩ = some (.slice n1 c0.length o1) ∧ w'.cell? ⟨R0, 3, none⟩ = some (.slice p1 d0.length q1) ∧ w'.cell? ⟨R0, 4, none⟩ = some (.slice t1 e0.length x1) ∧ w'.cell? ⟨R0, 5, none⟩ = some (.slice y1 f0.length A1) ∧ w'.cell? ⟨R0, 6, none⟩ = some (.int .i64 g0)) (ds := []) (bl 5 0) (by kernel_rfl) rfl (by kernel_rfl) ⟨zy l 0, zy l 1, zy l 2, zy l 3, zy l 4, zy l 5, zy l 6, zy a 0, zy a 1, zy a 2, zy a 3, zy a 4, zy a 5, zy a 6⟩ (fun hHeld => ?_)
   generalize X9.drew = w96 at q u z A x y B D J L E I a l HB hHeld ⊢
   refine take_ (i := 0) (N := some 22) (v := ?_) (a' := ?_) (bl 5 1) rfl rfl (by kernel_rfl) (fun _ _ _ h => h) (Or.inl ⟨by rfl, ?_⟩) hHeld ?_ ?_
   rotate_left
   · rintro w' ⟨s0, s1, s2, s3, s4, s5, s6, s7, s8, s9, o4, p4, q4, t4⟩
     go_simp
     with_reducible rfl
   rotate_left
   · simp only [Act.put, zq1, zq2, zq3, i64_w, i32_w]
     rfl
   refine take_ (i := 1) (N := some 23) (v := ?_) (a' := ?_) (bl 5 3) rfl rfl (by kernel_rfl) (fun _ _ _ h => h) (Or.inl ⟨by rfl, ?_⟩) hHeld ?_ ?_
   rotate_left
   · rintro w' ⟨s0, s1, s2, s3, s4, s5, s6, s7, s8, s9, o4, p4, q4, t4⟩
     go_simp
     with_reducible rfl
   rotate_left
   · simp only [Act.put, zq1, zq2, zq3, i64_w, i32_w]
     rfl
   refine one_ (i := 2) (N := some 24) (bl 5 7) rfl rfl (by kernel_rfl) (by decide) (fun K hK => ?_)
   refine goes_ Try.func7 (by kernel_rfl) rfl #[.agg #[.slice i1 a0.length j1, .slice l1 b0.length m1, .slice n1 c0.length o1, .slice p1 d0.length q1, .slice t1 e0.length x1, .slice y1 f0.length A1, .int .i64 g0]] (by rfl) rfl rfl zL ?_
   refine (laws_toPlan.calls k _ _ a0 _ _ b0 _ _ c0 _ _ d0 _ _ e0 _ _ f0 g0 I2 J2 L2 M2 N2 O2 R2 _ (zS I1) J1.out (zS L1) M1.out (zS N1) O1.out (zS R1) S1.out (zS T1) U1.out (zS V1) X1.out n5.out).mono ?_
   rintro e w97 ⟨v580, v583, v586, v589, v592, v595, rfl, O, T, B1, C1, U, X, hb⟩
   refine ⟨_, rfl, ?_⟩
   have o0 := zK (Kd.R_mono (Kd.R_told (Kd.R_told (Kd.R_told (Kd.R_told (Kd.R_old (zkR q) hb) (Kd.R_base O)) (Kd.R_base T)) (Kd.R_base U)) (Kd.R_base X)) (fun _ h_ => h_.1))
   have p0 := zK (Kd.R_mono (Kd.R_told (Kd.R_told (Kd.R_told (Kd.R_told (Kd.R_old (zkR u) hb) (Kd.R_base O)) (Kd.R_base T)) (Kd.R_base U)) (Kd.R_base X)) (fun _ h_ => h_.1))
   have q0 := zK (Kd.S_mono (Kd.S_told (Kd.S_told (Kd.S_told (Kd.S_told (Kd.S_told (Kd.S_old (zkS z) hb) (Kd.R_base O)) (Kd.R_base T)) (Kd.S_base B1)) (Kd.R_base U)) (Kd.R_base X)) (fun _ h_ => h_.1))
   have t0 := zK (Kd.R_mono (Kd.R_told (Kd.R_told (Kd.R_told (Kd.R_told (Kd.R_told (Kd.R_old (zkR A) hb) (Kd.R_base O)) (Kd.R_base T)) (Kd.R_base C1)) (Kd.R_base U)) (Kd.R_base X)) (fun _ h_ => h_.1))
   have x0 := zK (Kd.R_mono (Kd.R_told (Kd.R_told (Kd.R_told (Kd.R_told (Kd.R_old (zkR x) hb) (Kd.R_base O)) (Kd.R_base T)) (Kd.R_base U)) (Kd.R_base X)) (fun _ h_ => h_.1))
   have y0 := zK (Kd.R_mono (Kd.R_told (Kd.R_told (Kd.R_told (Kd.R_told (Kd.R_old (zkR y) hb) (Kd.R_base O)) (Kd.R_base T)) (Kd.R_base U)) (Kd.R_base X)) (fun _ h_ => h_.1))
   have A0 := zK (Kd.R_mono (Kd.R_told (Kd.R_told (Kd.R_told (Kd.R_told (Kd.R_old (zkR B) hb) (Kd.R_base O)) (Kd.R_base T)) (Kd.R_base U)) (Kd.R_base X)) (fun _ h_ => h_.1))
   have B0 := zK (Kd.R_mono (Kd.R_told (Kd.R_told (Kd.R_told (Kd.R_told (Kd.R_old (zkR D) hb) (Kd.R_base O)) (Kd.R_base T)) (Kd.R_base U)) (Kd.R_base X)) (fun _ h_ => h_.1))
   have U0 := zK (Kd.S_mono (Kd.S_told (Kd.S_told (Kd.S_told (Kd.S_told (Kd.S_told (Kd.S_old (zkS J) hb) (Kd.R_base O)) (Kd.R_base T)) (Kd.S_base B1)) (Kd.R_base U)) (Kd.R_base X)) (fun _ h_ => h_.1))
   have V0 := zK (Kd.R_mono (Kd.R_told (Kd.R_told (Kd.R_told (Kd.R_told (Kd.R_told (Kd.R_old (zkR L) hb) (Kd.R_base O)) (Kd.R_base T)) (Kd.R_base C1)) (Kd.R_base U)) (Kd.R_base X)) (fun _ h_ => h_.1))
   have C0 := zK (Kd.R_mono (Kd.R_told (Kd.R_told (Kd.R_told (Kd.R_told (Kd.R_old (zkR E) hb) (Kd.R_base O)) (Kd.R_base T)) (Kd.R_base U)) (Kd.R_base X)) (fun _ h_ => h_.1))
   have D0 := zK (Kd.R_mono (Kd.R_told (Kd.R_told (Kd.R_told (Kd.R_told (Kd.R_old (zkR I) hb) (Kd.R_base O)) (Kd.R_base T)) (Kd.R_base U)) (Kd.R_base X)) (fun _ h_ => h_.1))
   have E0 := zK (Kd.R_lower (Kd.R_new' (Kd.R_new' (Kd.R_new' (Kd.R_new' (Kd.R_new' (Kd.R_new' (Kd.R_new' (Kd.R_new' O (Kd.R_lt (zkR q))) (Kd.R_lt (zkR u))) (Kd.R_lt (zkR x))) (Kd.R_lt (zkR y))) (Kd.R_lt (zkR B))) (Kd.R_lt (zkR D))) (Kd.R_lt (zkR E))) (Kd.R_lt (zkR I))) (zz zB))
   have F0 := zK (Kd.R_lower (Kd.R_new' (Kd.R_new' (Kd.R_new' (Kd.R_new' (Kd.R_new' (Kd.R_new' (Kd.R_new' (Kd.R_new' T (Kd.R_lt (zkR q))) (Kd.R_lt (zkR u))) (Kd.R_lt (zkR x))) (Kd.R_lt (zkR y))) (Kd.R_lt (zkR B))) (Kd.R_lt (zkR D))) (Kd.R_lt (zkR E))) (Kd.R_lt (zkR I))) (zz zB))
   have S0 := zK (Kd.S_lower (Kd.S_new' (Kd.S_new' (Kd.S_new' (Kd.S_new' (Kd.S_new' (Kd.S_new' (Kd.S_new' (Kd.S_new' (Kd.S_new' (Kd.S_new' B1 (Kd.R_lt (zkR q))) (Kd.R_lt (zkR u))) (Kd.S_lt (zkS z))) (Kd.R_lt (zkR x))) (Kd.R_lt (zkR y))) (Kd.R_lt (zkR B))) (Kd.R_lt (zkR D))) (Kd.S_lt (zkS J))) (Kd.R_lt (zkR E))) (Kd.R_lt (zkR I))) (zz zB))
   have D1 := zK (Kd.R_lower (Kd.R_new' (Kd.R_new' (Kd.R_new' (Kd.R_new' (Kd.R_new' (Kd.R_new' (Kd.R_new' (Kd.R_new' (Kd.R_new' (Kd.R_new' C1 (Kd.R_lt (zkR q))) (Kd.R_lt (zkR u))) (Kd.R_lt (zkR A))) (Kd.R_lt (zkR x))) (Kd.R_lt (zkR y))) (Kd.R_lt (zkR B))) (Kd.R_lt (zkR D))) (Kd.R_lt (zkR L))) (Kd.R_lt (zkR E))) (Kd.R_lt (zkR I))) (zz zB))
   have E1 := zK (Kd.R_lower (Kd.R_new' (Kd.R_new' (Kd.R_new' (Kd.R_new' (Kd.R_new' (Kd.R_new' (Kd.R_new' (Kd.R_new' U (Kd.R_lt (zkR q))) (Kd.R_lt (zkR u))) (Kd.R_lt (zkR x))) (Kd.R_lt (zkR y))) (Kd.R_lt (zkR B))) (Kd.R_lt (zkR D))) (Kd.R_lt (zkR E))) (Kd.R_lt (zkR I))) (zz zB))
   have F1 := zK (Kd.R_lower (Kd.R_new' (Kd.R_new' (Kd.R_new' (Kd.R_new' (Kd.R_new' (Kd.R_new' (Kd.R_new' (Kd.R_new' X (Kd.R_lt (zkR q))) (Kd.R_lt (zkR u))) (Kd.R_lt (zkR x))) (Kd.R_lt (zkR y))) (Kd.R_lt (zkR B))) (Kd.R_lt (zkR D))) (Kd.R_lt (zkR E))) (Kd.R_lt (zkR I))) (zz zB))
   have G1 := z7 a hb
   have f3 := z7 l hb
   have g3 := z8 hb
   revert o0 p0 q0 t0 x0 y0 A0 B0 U0 V0 C0 D0 E0 F0 S0 D1 E1 F1 G1 f3 g3
   clear q u z A x y B D J L E I a l HB
   intro q u z A x y B D J L E I X0 a1 b1 c1 d1 e1 a l HB
   (try clear hb)
   (try clear hb2)
   (try clear hk)
   (try clear hi)
   (try clear O)
   (try clear T)
   (try clear B1)
   (try clear C1)
   (try clear U)
   (try clear X)
   obtain ⟨F6, G6, J4⟩ := Kd.R_slice X0.out
   (first | subst J4 | (injection J4 with f1_ f2_ f3_; have f4_ := f1_.symm; have f5_ := f3_.symm; clear f1_ f2_ f3_; subst f4_; subst f5_))
   obtain ⟨I6, J6, L4⟩ := Kd.R_slice a1.out
   (first | subst L4 | (injection L4 with f1_ f2_ f3_; have f4_ := f1_.symm; have f5_ := f3_.symm; clear f1_ f2_ f3_; subst f4_; subst f5_))
   obtain ⟨V4, X4, a4⟩ := Kd.S_slice b1.out
   (first | subst a4 | (injection a4 with f1_ f2_ f3_; have f4_ := f1_.symm; have f5_ := f3_.symm; clear f1_ f2_ f3_; subst f4_; subst f5_))
   obtain ⟨a5, b5, b4⟩ := Kd.R_slice c1.out
   (first | subst b4 | (injection b4 with f1_ f2_ f3_; have f4_ := f1_.symm; have f5_ := f3_.symm; clear f1_ f2_ f3_; subst f4_; subst f5_))
   obtain ⟨c5, d5, c4⟩ := Kd.R_slice d1.out
   (first | subst c4 | (injection c4 with f1_ f2_ f3_; have f4_ := f1_.symm; have f5_ := f3_.symm; clear f1_ f2_ f3_; subst f4_; subst f5_))
   obtain ⟨e5, f5, d4⟩ := Kd.R_slice e1.out
   (first | subst d4 | (injection d4 with f1_ f2_ f3_; have f4_ := f1_.symm; have f5_ := f3_.symm; clear f1_ f2_ f3_; subst f4_; subst f5_))
   refine hK.out _ _ ⟨zy l 0, zy l 1, zy l 2, zy l 3, zy l 4, zy l 5, zy l 6, zy a 0, zy a 1, zy a 2, zy a 3, zy a 4, zy a 5, zy a 6⟩ (fun hHeld => ?_)
   clear hK K
   refine zU 24 ?_
   refine one_ (i := 3) (N := some 25) (bl 5 15) rfl rfl (by kernel_rfl) (by decide) (fun K hK => ?_)
   refine goes_ Try.func9 (by kernel_rfl) rfl #[.agg #[.slice x2 j0.length e2, .slice y2 l0.length f2, .slice E3 N0.length A3, .slice F3 O0.length B3, .slice B2 m0.length g2, .slice C2 n0.length i2, .int .i64 T0], .agg #[.slice F6 I2.length G6, .slice I6 J2.length J6, .slice V4 L2.length X4, .slice a5 M2.length b5, .slice c5 N2.length d5, .slice e5 O2.length f5, .int .i64 R2]] (by rfl) rfl rfl zL ?_
   refine (laws_eqPlan.calls k _ _ j0 _ _ l0 _ _ N0 _ _ O0 _ _ m0 _ _ n0 T0 _ _ I2 _ _ J2 _ _ L2 _ _ M2 _ _ N2 _ _ O2 R2 false _ (zC (Kd.R_reads' B.out).2.2) ((Kd.R_reads' B.out).2.1) (zC (Kd.R_reads' D.out).2.2) ((Kd.R_reads' D.out).2.1) (zC (Kd.S_reads' J.out).2.2) ((Kd.S_reads' J.out).2.1) (zC (Kd.R_reads' L.out).2.2) ((Kd.R_reads' L.out).2.1) (zC (Kd.R_reads' E.out).2.2) ((Kd.R_reads' E.out).2.1) (zC (Kd.R_reads' I.out).2.2) ((Kd.R_reads' I.out).2.1) (zC (Kd.R_reads' X0.out).2.2) ((Kd.R_reads' X0.out).2.1) (zC (Kd.R_reads' a1.out).2.2) ((Kd.R_reads' a1.out).2.1) (zC (Kd.S_reads' b1.out).2.2) ((Kd.S_reads' b1.out).2.1) (zC (Kd.R_reads' c1.out).2.2) ((Kd.R_reads' c1.out).2.1) (zC (Kd.R_reads' d1.out).2.2) ((Kd.R_reads' d1.out).2.1) (zC (Kd.R_reads' e1.out).2.2) ((Kd.R_reads' e1.out).2.1) o5.out).mono ?_
   rintro e a0j ⟨rfl, hb⟩
   refine ⟨_, rfl, ?_⟩
   have o0 := zK (Kd.R_below (zkR q) hb)
   have p0 := zK (Kd.R_below (zkR u) hb)
   have q0 := zK (Kd.S_below (zkS z) hb)
   have t0 := zK (Kd.R_below (zkR A) hb)
   have x0 := zK (Kd.R_below (zkR x) hb)
   have y0 := zK (Kd.R_below (zkR y) hb)
   have A0 := zK (Kd.R_below (zkR B) hb)
   have B0 := zK (Kd.R_below (zkR D) hb)
   have U0 := zK (Kd.S_below (zkS J) hb)
   have V0 := zK (Kd.R_below (zkR L) hb)
   have C0 := zK (Kd.R_below (zkR E) hb)
   have D0 := zK (Kd.R_below (zkR I) hb)
   have E0 := zK (Kd.R_below (zkR X0) hb)
   have F0 := zK (Kd.R_below (zkR a1) hb)
   have S0 := zK (Kd.S_below (zkS b1) hb)
   have D1 := zK (Kd.R_below (zkR c1) hb)
   have E1 := zK (Kd.R_below (zkR d1) hb)
   have F1 := zK (Kd.R_below (zkR e1) hb)
   have G1 := z7 a hb
   have f3 := z7 l hb
   have g3 := z8 hb
   revert o0 p0 q0 t0 x0 y0 A0 B0 U0 V0 C0 D0 E0 F0 S0 D1 E1 F1 G1 f3 g3
   clear q u z A x y B D J L E I X0 a1 b1 c1 d1 e1 a l HB
   intro q u z A x y B D J L E I X0 a1 b1 c1 d1 e1 a l HB
   (try clear hb)
   (try clear hb2)
   (try clear hk)
   (try clear hi)
   refine hK.out _ _ ⟨zy l 0, zy l 1, zy l 2, zy l 3, zy l 4, zy l 5, zy l 6, zy a 0, zy a 1, zy a 2, zy a 3, zy a 4, zy a 5, zy a 6⟩ (fun hHeld => ?_)
   clear hK K
   refine zU 25 ?_
   refine pure_ (i := 4) (N := some 26) (v := ?_) (a' := ?_) (bl 5 31) rfl rfl (by kernel_rfl) (fun _ _ _ h => h) (Or.inl ⟨by rfl, ?_⟩) ?_ ?_
   rotate_left
   · intro w'
     go_simp
     with_reducible rfl
   rotate_left
   · simp only [Act.put, zq1, zq2, zq3, i64_w, i32_w]
     rfl
   refine done_ (by kernel_rfl) ?_
   try go_wp2
   go_ret
   exact ⟨zE, zB⟩
 all_goals go_ret
 all_goals exact ⟨zE, zB⟩
def WT92 (x : S92) : Prop := (Lit.int .i64 x.f0).wf = true ∧ (x.f1.length ≤ maxLen ∧ ∀ a ∈ x.f1, (Lit.int .i64 a).wf = true)
def WT95 (x : S95) : Prop := (Lit.int .i64 x.f0).wf = true ∧ (Lit.int .i64 x.f1).wf = true ∧ (x.f2.length ≤ maxLen ∧ ∀ a ∈ x.f2, (Lit.int .i64 a).wf = true)
def WT124 (x : S124) : Prop := (Lit.int .i64 x.f0).wf = true ∧ (Lit.int .i64 x.f1).wf = true ∧ (Lit.int .i64 x.f2).wf = true
def WT98 (x : S98) : Prop := (x.f0.length ≤ maxLen ∧ ∀ a ∈ x.f0, (Lit.int .i64 a).wf = true) ∧ (x.f1.length ≤ maxLen ∧ ∀ a ∈ x.f1, WT95 a) ∧ WT95 x.f2 ∧ True ∧ (x.f4.length ≤ maxLen ∧ ∀ a ∈ x.f4, WT124 a)
def WT26 (x : S26) : Prop := (x.f0.length ≤ maxLen ∧ ∀ a ∈ x.f0, (Lit.int .i64 a).wf = true) ∧ (x.f1.length ≤ maxLen ∧ ∀ a ∈ x.f1, (Lit.int .i64 a).wf = true) ∧ (x.f2.length ≤ maxLen ∧ ∀ a ∈ x.f2, WT92 a) ∧ (x.f3.length ≤ maxLen ∧ ∀ a ∈ x.f3, WT98 a) ∧ (x.f4.length ≤ maxLen ∧ ∀ a ∈ x.f4, (Lit.int .i64 a).wf = true)
def WT28 (x : S28) : Prop := WT26 x.f0 ∧ (x.f1.length ≤ maxLen ∧ ∀ a ∈ x.f1, (Lit.int .i64 a).wf = true) ∧ (Lit.int .i64 x.f2).wf = true
/-- THE ONE PURE STATEMENT of laws_FnExactPlanOk: yours. -/
def laws_FnExactPlanOk.Pure : Prop := ∀ (a : S28), WT28 a → ∃ k, laws_FnExactPlanOk.f k a.f0.f0 a.f0.f1 a.f0.f2 a.f0.f3 a.f0.f4 a.f1 a.f2 = some true
theorem laws_FnExactPlanOk.walk (P : laws_FnExactPlanOk.Pure) (a : S28) (cs0 : Array Value) (w : World) (h0 : k28.K w a cs0.toList) (w0 : WT28 a) :
 Calls Try.prog 3 #[.agg cs0] w fun e w' => e = .returned (.bool true) ∧ Below w.heap.size w w' := by
 obtain ⟨k, h⟩ := P a w0
 obtain ⟨l, q, u, x, y, z, A, B, D, E, I, J, hcs0, L, g0_0, M, g0_1, O, g0_2, T, g0_3, U, g0_4, X, g0_5⟩ := k28_open h0
 obtain rfl : cs0 = #[.slice l (a.f0.f0).length q, .slice u (a.f0.f1).length x, .slice y (a.f0.f2).length z, .slice A (a.f0.f3).length B, .slice D (a.f0.f4).length E, .slice I (a.f1).length J, .int .i64 a.f2] := by cases cs0; simp_all
 refine (laws_FnExactPlanOk.calls k _ _ a.f0.f0 _ _ a.f0.f1 _ _ a.f0.f2 _ _ a.f0.f3 _ _ a.f0.f4 _ _ a.f1 a.f2 true w g0_0 L g0_1 M g0_2 O g0_3 T g0_4 U g0_5 X h).mono ?_
 rintro e w' ⟨rfl, hd⟩
 exact ⟨rfl, hd⟩
end Go.Proofs.Ytmcboiffbcnalaa.PFnExactPlanOk
