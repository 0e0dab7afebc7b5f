-- Printed out of the translation by this session's own turned copy of a printer; Lean checks it.
import Derived.Test.YtmcboiffbcnalaaPFnExactPlanOkx0
import Derived.Test.YtmcboiffbcnalaaPFnExactPlanOkx13
namespace Go.Proofs.Ytmcboiffbcnalaa.PFnExactPlanOk
open Go.RowKit Go.Proofs.YtmcboiffbcnalaaW.PrintWords Go.Proofs.YtmcboiffbcnalaaW.PrintLast Go.Proofs.YtmcboiffbcnalaaW.PrintMore
attribute [local go_sem] max2_int min2_int max_two min_two max_three min_three max_four min_four
set_option linter.unusedVariables false
set_option linter.unusedSimpArgs false
set_option maxHeartbeats 8000000
set_option maxRecDepth 100000
def laws_toNest.f (k : Nat) (a : List Int) (l : List Int) (q : List (S92)) (u : List (S98)) (x : List Int) : Option (List Int × List Int × (List (S71)) × (List (S79)) × List Int) := (laws_toIntS.f k a).bind fun y => ((laws_toIntS.f k l).bind fun z => ((laws_toFixS.f k q).bind fun A => ((laws_toKernelS.f k u).bind fun B => ((laws_toIntS.f k x).bind fun D => (some (y, z, A, B, D))))))
theorem laws_toNest.calls (k) (j0) (l0) (J : List Int) (m0) (n0) (L : List Int) (o0) (p0) (M : List (S92)) (q0) (s0) (O : List (S98)) (t0) (x0) (T : List Int) (r1 : List Int) (r2 : List Int) (r3 : List (S71)) (r4 : List (S79)) (r5 : List Int) (w) (N0 : Kd.C (Kd.int .i64) w j0 J.length J) (O0 : J.length ≤ l0) (R0 : Kd.C (Kd.int .i64) w m0 L.length L) (S0 : L.length ≤ n0) (T0 : Kd.C k92 w o0 M.length M) (U0 : M.length ≤ p0) (V0 : Kd.C k98 w q0 O.length O) (X0 : O.length ≤ s0) (a1 : Kd.C (Kd.int .i64) w t0 T.length T) (b1 : T.length ≤ x0) (h : laws_toNest.f k J L M O T = some (r1, r2, r3, r4, r5)) :
 Calls Try.prog 12 #[.agg #[.slice j0 J.length l0, .slice m0 L.length n0, .slice o0 M.length p0, .slice q0 O.length s0, .slice t0 T.length x0]] w fun e w' => ∃ v0_ v1_ v2_ v3_ v4_ : Value, e = .returned (.agg #[v0_, v1_, v2_, v3_, v4_]) ∧ Kd.R (Kd.int .i64) 3 w' w.heap.size (fun k_ => some k_ ≠ (v1_ : Value).ownBlock ∧ some k_ ≠ (v4_ : Value).ownBlock) v0_ r1 ∧ Kd.R (Kd.int .i64) 3 w' w.heap.size (fun k_ => some k_ ≠ (v0_ : Value).ownBlock ∧ some k_ ≠ (v4_ : Value).ownBlock) v1_ r2 ∧ Kd.S k71 71 w' w.heap.size (fun k_ => some k_ ≠ (v0_ : Value).ownBlock ∧ some k_ ≠ (v1_ : Value).ownBlock ∧ some k_ ≠ (v4_ : Value).ownBlock) v2_ r3 ∧ Kd.R k79 79 w' w.heap.size (fun k_ => some k_ ≠ (v0_ : Value).ownBlock ∧ some k_ ≠ (v1_ : Value).ownBlock ∧ some k_ ≠ (v4_ : Value).ownBlock) v3_ r4 ∧ Kd.R (Kd.int .i64) 3 w' w.heap.size (fun k_ => some k_ ≠ (v0_ : Value).ownBlock ∧ some k_ ≠ (v1_ : Value).ownBlock) v4_ r5 ∧ Below w.heap.size w w' := by
 have f5 := Try.underlying26
 have g5 := Try.underlying34
 have g1 := zK N0
 have i1 := zK O0
 clear N0 O0
 have j1 := zK R0
 have l1 := zK S0
 clear R0 S0
 have m1 := zK T0
 have n1 := zK U0
 clear T0 U0
 have o1 := zK V0
 have p1 := zK X0
 clear V0 X0
 have q1 := zK a1
 have s1 := zK b1
 clear a1 b1
 have HB := zK (Below.refl w.heap.size w)
 have H : ((laws_toIntS.f k J).bind fun U => ((laws_toIntS.f k L).bind fun a0 => ((laws_toFixS.f k M).bind fun d0 => ((laws_toKernelS.f k O).bind fun f0 => ((laws_toIntS.f k T).bind fun y0 => (some (U, a0, d0, f0, y0))))))) = some (r1, r2, r3, r4, r5) := h
 clear h
 replace H := z6 H
 obtain ⟨U, x1, H⟩ := H
 have A2 := zK x1
 clear x1
 replace H := z6 H
 obtain ⟨a0, y1, H⟩ := H
 have A3 := zK y1
 clear y1
 replace H := z6 H
 obtain ⟨d0, A1, H⟩ := H
 have A4 := zK A1
 clear A1
 replace H := z6 H
 obtain ⟨f0, B1, H⟩ := H
 have A5 := zK B1
 clear B1
 replace H := z6 H
 obtain ⟨y0, C1, H⟩ := H
 have A6 := zK C1
 clear C1
 simp only [Option.some.injEq, Prod.mk.injEq] at H
 obtain ⟨rfl, rfl, rfl, rfl, rfl⟩ := H
 go_enter Try.func12, Try.ntmps12
 go_wp2_with (first | ((with_reducible refine gd 1 rfl ?_); refine zJ 1 #[.slice j0 J.length l0, .slice m0 L.length n0, .slice o0 M.length p0, .slice q0 O.length s0, .slice t0 T.length x0] 26 ?_; intro N4 hg w7 hbox hb; have y := z8 hb; have z := zK (hbox); have A := z9 hg; have B := z9 hg; revert y z A B; clear HB; intro HB l O4 R4; clear hb hbox hg) | ((with_reducible refine gd 2 rfl ?_); refine zJ 2 #[.slice none 0 0, .slice none 0 0, .slice none 0 0, .slice none 0 0, .slice none 0 0] 34 ?_; intro t1 hg w8 hbox hb; have y := z7 l hb; have z := z8 hb; have A := zK (hbox); have B := z9 hg; have I := z9 hg; have X := zHH hg l; have b0 := zGG hg l; revert y z A B I X b0; clear l HB; intro l HB q S4 T4 C0 D0; clear hb hbox hg) | ((with_reducible refine gd 3 rfl ?_); refine zJ 3 #[.slice none 0 0, .slice none 0 0, .slice none 0 0, .slice none 0 0, .slice none 0 0] 34 ?_; intro e0 hg w9 hbox hb; have y := z7 l hb; have z := z7 q hb; have A := z8 hb; have B := zK (hbox); have I := z9 hg; have X := z9 hg; have b0 := zHH hg l; have E0 := zGG hg l; have d1 := zHH hg q; have M4 := zGG hg q; revert y z A B I X b0 E0 d1 M4; clear l q HB; intro l q HB a U4 V4 F0 G0 I0 J0; clear hb hbox hg; have X4 := C0.out; have a5 := D0.out; have b5 := F0.out; have c5 := G0.out; obtain ⟨M1, N1, O1, R1, S1, T1, U1, V1, X1, a2⟩ := zc5 l) | ((with_reducible refine gc 23 rfl ?_); refine zF 6 Try.func23 #[.slice j0 J.length l0] rfl zL ?_; refine (laws_toIntS.calls k _ _ J U _ (zS g1) i1.out A2.out).mono ?_; rintro e o5 ⟨v345, rfl, D, hb⟩; refine ⟨_, rfl, ?_⟩; have y := zK (Kd.R_lower D (zz zB)); have z := z7 l hb; have A := z7 q hb; have B := z7 a hb; have I := z8 hb; revert y z A B I; clear l q a HB; intro u l q a HB; obtain ⟨g0, i0, D1⟩ := Kd.R_slice u.out; subst D1; have d5 := J0.out; have e5 := I0.out; obtain ⟨b2, c2, d2, e2, f2, g2, i2, j2, l2, m2⟩ := zc5 a; obtain ⟨n2, o2, p2, q2, s2, t2, x2, y2, B2, C2⟩ := zc5 l) | ((with_reducible refine gc 23 rfl ?_); refine zF 10 Try.func23 #[.slice m0 L.length n0] rfl zL ?_; refine (laws_toIntS.calls k _ _ L a0 _ (z4 j1.out zB) l1.out A3.out).mono ?_; rintro e p5 ⟨v348, rfl, D, hb⟩; refine ⟨_, rfl, ?_⟩; have y := zK (Kd.R_elder' (Kd.R_mono (zlR (Kd.R_types u.out a.out (by decide))) (fun _ h_ => h_.1)) (Kd.R_base D) hb); have z := zK (Kd.R_lower (Kd.R_new' D (Kd.R_lt (Kd.R_mono (zlR (Kd.R_types u.out a.out (by decide))) (fun _ h_ => h_.1)))) (zz zB)); have A := zK (zg (zV l) hb); have B := zK (zg (zV q) hb); have I := zK (zg (g := e0) (o := .cells #[.slice g0 U.length i0, .slice none 0 0, .slice none 0 0, .slice none 0 0, .slice none 0 0] 34 (0, 0)) (zW a) hb); have X := z8 hb; revert y z A B I X; clear u l q a HB; intro u x l q a HB; obtain ⟨A0, B0, E1⟩ := Kd.R_slice x.out; subst E1; obtain ⟨D2, E2, F2, G2, I2, J2, L2, M2, N2, O2⟩ := zc5 a; obtain ⟨R2, T2, U2, V2, X2, a3, b3, c3, d3, e3⟩ := zc5 l) | ((with_reducible refine gc 30 rfl ?_); refine zF 14 Try.func30 #[.slice o0 M.length p0] rfl zL ?_; refine (laws_toFixS.calls k _ _ M d0 _ (z4 m1.out zB) n1.out A4.out).mono ?_; rintro e q5 ⟨v351, rfl, D, hb⟩; refine ⟨_, rfl, ?_⟩; have y := zK (Kd.R_below (Kd.R_mono (zlR (Kd.R_types u.out a.out (by decide))) (fun _ h_ => h_.1)) hb); have z := zK (Kd.R_below (Kd.R_mono (zlR (Kd.R_types x.out a.out (by decide))) (fun _ h_ => h_.1)) hb); have A := zK (Kd.S_lower (Kd.S_new' (Kd.S_new' D (Kd.R_lt (Kd.R_mono (zlR (Kd.R_types u.out a.out (by decide))) (fun _ h_ => h_.1)))) (Kd.R_lt (Kd.R_mono (zlR (Kd.R_types x.out a.out (by decide))) (fun _ h_ => h_.1)))) (zz zB)); have B := zK (zg (zV l) hb); have I := zK (zg (zV q) hb); have X := zK (zg (g := e0) (o := .cells #[.slice g0 U.length i0, .slice A0 a0.length B0, .slice none 0 0, .slice none 0 0, .slice none 0 0] 34 (0, 0)) (zW a) hb); have b0 := z8 hb; revert y z A B I X b0; clear u x l q a HB; intro u x E l q a HB; obtain ⟨L0, M0, F1⟩ := Kd.S_slice E.out; subst F1; obtain ⟨f3, g3, i3, j3, l3, m3, n3, o3, p3, q3⟩ := zc5 a; obtain ⟨s3, t3, x3, y3, B3, C3, D3, E3, F3, G3⟩ := zc5 l) | ((with_reducible refine gc 31 rfl ?_); refine zF 18 Try.func31 #[.slice q0 O.length s0] rfl zL ?_; refine (laws_toKernelS.calls k _ _ O f0 _ (z4 o1.out zB) p1.out A5.out).mono ?_; rintro e s5 ⟨v354, rfl, D, hb⟩; refine ⟨_, rfl, ?_⟩; have y := zK (Kd.R_below (Kd.R_mono (zlR (Kd.R_types u.out a.out (by decide))) (fun _ h_ => h_.1)) hb); have z := zK (Kd.R_below (Kd.R_mono (zlR (Kd.R_types x.out a.out (by decide))) (fun _ h_ => h_.1)) hb); have A := zK (Kd.S_below (Kd.S_mono (zlS (Kd.S_types E.out a.out (by decide))) (fun _ h_ => h_.1)) hb); have B := zK (Kd.R_lower (Kd.R_new' (Kd.R_new' D (Kd.R_lt (Kd.R_mono (zlR (Kd.R_types u.out a.out (by decide))) (fun _ h_ => h_.1)))) (Kd.R_lt (Kd.R_mono (zlR (Kd.R_types x.out a.out (by decide))) (fun _ h_ => h_.1)))) (zz zB)); have I := zK (zg (zV l) hb); have X := zK (zg (zV q) hb); have b0 := zK (zg (g := e0) (o := .cells #[.slice g0 U.length i0, .slice A0 a0.length B0, .slice L0 d0.length M0, .slice none 0 0, .slice none 0 0] 34 (0, 0)) (zW a) hb); have E0 := z8 hb; revert y z A B I X b0 E0; clear u x E l q a HB; intro u x E c0 l q a HB; obtain ⟨e1, f1, G1⟩ := Kd.R_slice c0.out; subst G1; obtain ⟨I3, J3, L3, M3, N3, O3, R3, S3, T3, U3⟩ := zc5 a; obtain ⟨V3, X3, a4, b4, c4, d4, e4, f4, g4, i4⟩ := zc5 l) | ((with_reducible refine gc 23 rfl ?_); refine zF 22 Try.func23 #[.slice t0 T.length x0] rfl zL ?_; refine (laws_toIntS.calls k _ _ T y0 _ (z4 q1.out zB) s1.out A6.out).mono ?_; rintro e t5 ⟨v357, rfl, D, hb⟩; refine ⟨_, rfl, ?_⟩; have y := zK (Kd.R_elder' (Kd.R_mono (zlR (Kd.R_types u.out a.out (by decide))) (fun _ h_ => h_.1)) (Kd.R_base D) hb); have z := zK (Kd.R_elder' (Kd.R_mono (zlR (Kd.R_types x.out a.out (by decide))) (fun _ h_ => h_.1)) (Kd.R_base D) hb); have A := zK (Kd.S_elder' (Kd.S_mono (zlS (Kd.S_types E.out a.out (by decide))) (fun _ h_ => h_.1)) (Kd.R_base D) hb); have B := zK (Kd.R_elder' (Kd.R_mono (zlR (Kd.R_types c0.out a.out (by decide))) (fun _ h_ => h_.1)) (Kd.R_base D) hb); have I := zK (Kd.R_lower (Kd.R_new' (Kd.R_new' D (Kd.R_lt (Kd.R_mono (zlR (Kd.R_types u.out a.out (by decide))) (fun _ h_ => h_.1)))) (Kd.R_lt (Kd.R_mono (zlR (Kd.R_types x.out a.out (by decide))) (fun _ h_ => h_.1)))) (zz zB)); have X := zK (zg (zV l) hb); have b0 := zK (zg (zV q) hb); have E0 := zK (zg (g := e0) (o := .cells #[.slice g0 U.length i0, .slice A0 a0.length B0, .slice L0 d0.length M0, .slice e1 f0.length f1, .slice none 0 0] 34 (0, 0)) (zW a) hb); have d1 := z8 hb; revert y z A B I X b0 E0 d1; clear u x E c0 l q a HB; intro u x E c0 c1 l q a HB; obtain ⟨I1, J1, L1⟩ := Kd.R_slice c1.out; subst L1; obtain ⟨j4, l4, m4, n4, o4, p4, q4, s4, t4, x4⟩ := zc5 a; obtain ⟨y4, B4, C4, D4, E4, F4, G4, I4, J4, L4⟩ := zc5 q))
 refine bodyPost_ret (results_cell_row rfl _ _ t1 34 #[.slice g0 U.length i0, .slice A0 a0.length B0, .slice L0 d0.length M0, .slice e1 f0.length f1, .slice I1 y0.length J1] (0, 0) _ rfl (zW q) Try.underlying34 rfl (by kernel_rfl)) rfl ?_
 exact ⟨_, _, _, _, _, zE, Kd.R_mono (zlR (Kd.R_types (Kd.R_types u.out a.out (by decide)) q.out (by decide))) (fun _ hk => ⟨hk.1.1.1.2, hk.1.1.2⟩), Kd.R_mono (zlR (Kd.R_types (Kd.R_types x.out a.out (by decide)) q.out (by decide))) (fun _ hk => ⟨hk.1.1.1.2, hk.1.1.2⟩), Kd.S_mono (zlS (Kd.S_types (Kd.S_types E.out a.out (by decide)) q.out (by decide))) (fun _ hk => ⟨hk.1.1.1.1.2, ⟨hk.1.1.1.2, hk.1.1.2⟩⟩), Kd.R_mono (zlR (Kd.R_types (Kd.R_types c0.out a.out (by decide)) q.out (by decide))) (fun _ hk => ⟨hk.1.1.1.1.2, ⟨hk.1.1.1.2, hk.1.1.2⟩⟩), Kd.R_mono (zlR (Kd.R_types (Kd.R_types c1.out a.out (by decide)) q.out (by decide))) (fun _ hk => ⟨hk.1.1.1.2, hk.1.1.2⟩), zB⟩
def laws_toPlan.f (k : Nat) (l : List Int) (q : List Int) (u : List (S92)) (x : List (S98)) (y : List Int) (z : List Int) (A : Int) : Option (List Int × List Int × (List (S71)) × (List (S79)) × List Int × List Int × Int) := (laws_toNest.f k l q u x y).bind fun a => ((laws_toIntS.f k z).bind fun B => (some (a.1, a.2.1, a.2.2.1, a.2.2.2.1, a.2.2.2.2, B, A)))
theorem laws_toPlan.calls (k) (g0) (i0) (x : List Int) (j0) (l0) (y : List Int) (m0) (n0) (z : List (S92)) (o0) (p0) (A : List (S98)) (q0) (s0) (B : List Int) (t0) (x0) (u : List Int) (a0) (r1 : List Int) (r2 : List Int) (r3 : List (S71)) (r4 : List (S79)) (r5 : List Int) (r6 : List Int) (r7) (w) (O0 : Kd.C (Kd.int .i64) w g0 x.length x) (R0 : x.length ≤ i0) (S0 : Kd.C (Kd.int .i64) w j0 y.length y) (T0 : y.length ≤ l0) (U0 : Kd.C k92 w m0 z.length z) (V0 : z.length ≤ n0) (X0 : Kd.C k98 w o0 A.length A) (a1 : A.length ≤ p0) (b1 : Kd.C (Kd.int .i64) w q0 B.length B) (c1 : B.length ≤ s0) (d1 : Kd.C (Kd.int .i64) w t0 u.length u) (e1 : u.length ≤ x0) (h : laws_toPlan.f k x y z A B u a0 = some (r1, r2, r3, r4, r5, r6, r7)) :
 Calls Try.prog 7 #[.agg #[.slice g0 x.length i0, .slice j0 y.length l0, .slice m0 z.length n0, .slice o0 A.length p0, .slice q0 B.length s0, .slice t0 u.length x0, .int .i64 a0]] w fun e w' => ∃ v0_ v1_ v2_ v3_ v4_ v5_ : Value, e = .returned (.agg #[v0_, v1_, v2_, v3_, v4_, v5_, .int .i64 r7]) ∧ Kd.R (Kd.int .i64) 3 w' w.heap.size (fun k_ => some k_ ≠ (v1_ : Value).ownBlock ∧ some k_ ≠ (v4_ : Value).ownBlock ∧ some k_ ≠ (v5_ : Value).ownBlock) v0_ r1 ∧ Kd.R (Kd.int .i64) 3 w' w.heap.size (fun k_ => some k_ ≠ (v0_ : Value).ownBlock ∧ some k_ ≠ (v4_ : Value).ownBlock ∧ some k_ ≠ (v5_ : Value).ownBlock) v1_ r2 ∧ Kd.S k71 71 w' w.heap.size (fun k_ => some k_ ≠ (v0_ : Value).ownBlock ∧ some k_ ≠ (v1_ : Value).ownBlock ∧ some k_ ≠ (v4_ : Value).ownBlock ∧ some k_ ≠ (v5_ : Value).ownBlock) v2_ r3 ∧ Kd.R k79 79 w' w.heap.size (fun k_ => some k_ ≠ (v0_ : Value).ownBlock ∧ some k_ ≠ (v1_ : Value).ownBlock ∧ some k_ ≠ (v4_ : Value).ownBlock ∧ some k_ ≠ (v5_ : Value).ownBlock) v3_ r4 ∧ Kd.R (Kd.int .i64) 3 w' w.heap.size (fun k_ => some k_ ≠ (v0_ : Value).ownBlock ∧ some k_ ≠ (v1_ : Value).ownBlock ∧ some k_ ≠ (v5_ : Value).ownBlock) v4_ r5 ∧ Kd.R (Kd.int .i64) 3 w' w.heap.size (fun k_ => some k_ ≠ (v0_ : Value).ownBlock ∧ some k_ ≠ (v1_ : Value).ownBlock ∧ some k_ ≠ (v4_ : Value).ownBlock) v5_ r6 ∧ Below w.heap.size w w' := by
 have J4 := Try.underlying28
 have L4 := Try.underlying36
 have M4 := Try.underlying26
 have N4 := Try.underlying34
 have x1 := zK O0
 have y1 := zK R0
 clear O0 R0
 have A1 := zK S0
 have B1 := zK T0
 clear S0 T0
 have C1 := zK U0
 have D1 := zK V0
 clear U0 V0
 have E1 := zK X0
 have F1 := zK a1
 clear X0 a1
 have G1 := zK b1
 have I1 := zK c1
 clear b1 c1
 have J1 := zK d1
 have L1 := zK e1
 clear d1 e1
 have HB := zK (Below.refl w.heap.size w)
 have H : ((laws_toNest.f k x y z A B).bind fun J => ((laws_toIntS.f k u).bind fun b0 => (some (J.1, J.2.1, J.2.2.1, J.2.2.2.1, J.2.2.2.2, b0, a0)))) = some (r1, r2, r3, r4, r5, r6, r7) := h
 clear h
 replace H := z6 H
 obtain ⟨⟨y0, A0, B0, C0, D0⟩, O1, H⟩ := H
 replace H : ((laws_toIntS.f k u).bind fun b0 => (some (y0, A0, B0, C0, D0, b0, a0))) = some (r1, r2, r3, r4, r5, r6, r7) := H
 have A2 := zK O1
 clear O1
 replace H := z6 H
 obtain ⟨b0, R1, H⟩ := H
 have A3 := zK R1
 clear R1
 simp only [Option.some.injEq, Prod.mk.injEq] at H
 obtain ⟨rfl, rfl, rfl, rfl, rfl, rfl, rfl⟩ := H
 go_enter Try.func7, Try.ntmps7
 go_wp2_with (first | ((with_reducible refine gd 1 rfl ?_); refine zJ 1 #[.slice g0 x.length i0, .slice j0 y.length l0, .slice m0 z.length n0, .slice o0 A.length p0, .slice q0 B.length s0, .slice t0 u.length x0, .int .i64 a0] 28 ?_; intro y4 hg w4 hbox hb; have L := z8 hb; have M := zK (hbox); have O := z9 hg; have T := z9 hg; revert L M O T; clear HB; intro HB l A4 B4; clear hb hbox hg) | ((with_reducible refine gd 2 rfl ?_); refine zJ 2 #[.slice none 0 0, .slice none 0 0, .slice none 0 0, .slice none 0 0, .slice none 0 0, .slice none 0 0, .int .i64 0] 36 ?_; intro M1 hg w5 hbox hb; have L := z7 l hb; have M := z8 hb; have O := zK (hbox); have T := z9 hg; have d0 := z9 hg; have e0 := zHH hg l; have f0 := zGG hg l; revert L M O T d0 e0 f0; clear l HB; intro l HB q C4 D4 E0 F0; clear hb hbox hg) | ((with_reducible refine gd 3 rfl ?_); refine zJ 3 #[.slice none 0 0, .slice none 0 0, .slice none 0 0, .slice none 0 0, .slice none 0 0, .slice none 0 0, .int .i64 0] 36 ?_; intro N1 hg w6 hbox hb; have L := z7 l hb; have M := z7 q hb; have O := z8 hb; have T := zK (hbox); have d0 := z9 hg; have e0 := z9 hg; have f0 := zHH hg l; have G0 := zGG hg l; have I0 := zHH hg q; have g1 := zGG hg q; revert L M O T d0 e0 f0 G0 I0 g1; clear l q HB; intro l q HB a E4 F4 J0 L0 M0 N0; clear hb hbox hg; have S4 := E0.out; have T4 := F0.out; have U4 := J0.out; have V4 := L0.out; obtain ⟨a4, b4, c4, d4, e4, f4, g4, i4, j4, l4, m4, n4, o4, p4⟩ := zc7 l) | ((with_reducible refine gc 12 rfl ?_); refine zF 6 Try.func12 #[.agg #[.slice g0 x.length i0, .slice j0 y.length l0, .slice m0 z.length n0, .slice o0 A.length p0, .slice q0 B.length s0]] rfl zL ?_; refine (laws_toNest.calls k _ _ x _ _ y _ _ z _ _ A _ _ B y0 A0 B0 C0 D0 _ (zS x1) y1.out (zS A1) B1.out (zS C1) D1.out (zS E1) F1.out (zS G1) I1.out A2.out).mono ?_; rintro e X4 ⟨v363, v366, v369, v372, v375, rfl, c0, q4, s4, t4, x4, hb⟩; refine ⟨_, rfl, ?_⟩; have L := zK (Kd.R_lower c0 (zz zB)); have M := zK (Kd.R_lower q4 (zz zB)); have O := zK (Kd.S_lower s4 (zz zB)); have T := zK (Kd.R_lower t4 (zz zB)); have d0 := zK (Kd.R_lower x4 (zz zB)); have e0 := z7 l hb; have f0 := z7 q hb; have G0 := z7 a hb; have I0 := z8 hb; revert L M O T d0 e0 f0 G0 I0; clear l q a HB; intro D E U X I l q a HB; obtain ⟨i1, j1, S1⟩ := Kd.R_slice D.out; subst S1; have G4 := N0.out; have I4 := M0.out; obtain ⟨d2, e2, f2, g2, i2, j2, l2, m2, n2, o2, p2, q2, s2, t2⟩ := zc7 a; obtain ⟨l1, m1, T1⟩ := Kd.R_slice E.out; subst T1; obtain ⟨n1, o1, U1⟩ := Kd.S_slice U.out; subst U1; obtain ⟨p1, q1, V1⟩ := Kd.R_slice X.out; subst V1; obtain ⟨s1, t1, X1⟩ := Kd.R_slice I.out; subst X1; obtain ⟨x2, y2, B2, C2, D2, E2, F2, G2, I2, J2, L2, M2, N2, O2⟩ := zc7 l) | ((with_reducible refine gc 23 rfl ?_); refine zF 10 Try.func23 #[.slice t0 u.length x0] rfl zL ?_; refine (laws_toIntS.calls k _ _ u b0 _ (z4 J1.out zB) L1.out A3.out).mono ?_; rintro e a5 ⟨v378, rfl, c0, hb⟩; refine ⟨_, rfl, ?_⟩; have L := zK (Kd.R_elder' (Kd.R_mono (zlR (Kd.R_types D.out a.out (by decide))) (fun _ h_ => h_.1)) (Kd.R_base c0) hb); have M := zK (Kd.R_elder' (Kd.R_mono (zlR (Kd.R_types E.out a.out (by decide))) (fun _ h_ => h_.1)) (Kd.R_base c0) hb); have O := zK (Kd.S_elder' (Kd.S_mono (zlS (Kd.S_types U.out a.out (by decide))) (fun _ h_ => h_.1)) (Kd.R_base c0) hb); have T := zK (Kd.R_elder' (Kd.R_mono (zlR (Kd.R_types X.out a.out (by decide))) (fun _ h_ => h_.1)) (Kd.R_base c0) hb); have d0 := zK (Kd.R_elder' (Kd.R_mono (zlR (Kd.R_types I.out a.out (by decide))) (fun _ h_ => h_.1)) (Kd.R_base c0) hb); have e0 := zK (Kd.R_lower (Kd.R_new' (Kd.R_new' (Kd.R_new' c0 (Kd.R_lt (Kd.R_mono (zlR (Kd.R_types D.out a.out (by decide))) (fun _ h_ => h_.1)))) (Kd.R_lt (Kd.R_mono (zlR (Kd.R_types E.out a.out (by decide))) (fun _ h_ => h_.1)))) (Kd.R_lt (Kd.R_mono (zlR (Kd.R_types I.out a.out (by decide))) (fun _ h_ => h_.1)))) (zz zB)); have f0 := zK (zg (zV l) hb); have G0 := zK (zg (zV q) hb); have I0 := zK (zg (g := N1) (o := .cells #[.slice i1 y0.length j1, .slice l1 A0.length m1, .slice n1 B0.length o1, .slice p1 C0.length q1, .slice s1 D0.length t1, .slice none 0 0, .int .i64 0] 36 (0, 0)) (zW a) hb); have g1 := z8 hb; revert L M O T d0 e0 f0 G0 I0 g1; clear D E U X I l q a HB; intro D E U X I f1 l q a HB; obtain ⟨a2, b2, c2⟩ := Kd.R_slice f1.out; subst c2; obtain ⟨R2, T2, U2, V2, X2, a3, b3, c3, d3, e3, f3, g3, i3, j3⟩ := zc7 a; obtain ⟨l3, m3, n3, o3, p3, q3, s3, t3, x3, y3, B3, C3, D3, E3⟩ := zc7 l; obtain ⟨F3, G3, I3, J3, L3, M3, N3, O3, R3, S3, T3, U3, V3, X3⟩ := zc7 q))
 refine bodyPost_ret (results_cell_row rfl _ _ M1 36 #[.slice i1 y0.length j1, .slice l1 A0.length m1, .slice n1 B0.length o1, .slice p1 C0.length q1, .slice s1 D0.length t1, .slice a2 b0.length b2, .int .i64 a0] (0, 0) _ rfl (zW q) Try.underlying36 rfl (by kernel_rfl)) rfl ?_
 exact ⟨_, _, _, _, _, _, zE, Kd.R_mono (zlR (Kd.R_types (Kd.R_types D.out a.out (by decide)) q.out (by decide))) (fun _ hk => ⟨hk.1.1.1.1, ⟨hk.1.1.1.2, hk.1.1.2⟩⟩), Kd.R_mono (zlR (Kd.R_types (Kd.R_types E.out a.out (by decide)) q.out (by decide))) (fun _ hk => ⟨hk.1.1.1.1, ⟨hk.1.1.1.2, hk.1.1.2⟩⟩), Kd.S_mono (zlS (Kd.S_types (Kd.S_types U.out a.out (by decide)) q.out (by decide))) (fun _ hk => ⟨hk.1.1.1.1, ⟨hk.1.1.1.2.1, ⟨hk.1.1.1.2.2, hk.1.1.2⟩⟩⟩), Kd.R_mono (zlR (Kd.R_types (Kd.R_types X.out a.out (by decide)) q.out (by decide))) (fun _ hk => ⟨hk.1.1.1.1, ⟨hk.1.1.1.2.1, ⟨hk.1.1.1.2.2, hk.1.1.2⟩⟩⟩), Kd.R_mono (zlR (Kd.R_types (Kd.R_types I.out a.out (by decide)) q.out (by decide))) (fun _ hk => ⟨hk.1.1.1.1, ⟨hk.1.1.1.2, hk.1.1.2⟩⟩), Kd.R_mono (zlR (Kd.R_types (Kd.R_types f1.out a.out (by decide)) q.out (by decide))) (fun _ hk => ⟨hk.1.1.1.1.2, ⟨hk.1.1.1.2, hk.1.1.2⟩⟩), zB⟩
def impl_isNum.f (a : Int) : Option (Bool) := if a ≥ 0 then (some (decide (a < 2147483647))) else (some false)
theorem impl_isNum.calls (l) (r : Bool) (w) (h : impl_isNum.f l = some r) :
 Calls Try.prog 82 #[.int .i64 l] w fun e w' => e = .returned (.bool r) ∧ Drawn0 w w' := by
 have H : (if l ≥ 0 then (some (decide (l < 2147483647))) else (some false)) = some r := h
 clear h
 by_cases a : l ≥ 0
 · rw [if_pos a] at H
   have q := z1 a
   clear a
   obtain rfl := z5 H
   go_enter Try.func82, Try.ntmps82
   go_wp2
   go_ret
   exact ⟨zR, zD⟩
 rw [if_neg a] at H
 have q := z2 a
 clear a
 obtain rfl := z5 H
 go_enter Try.func82, Try.ntmps82
 go_wp2
 go_ret
 exact ⟨zR, zD⟩
def impl_allNums.l0 : Nat → List Int → Int → Int → Option (Bool)
 | 0, _, _, _ => none
 | k + 1, l, u, a => if a < u then (if 0 ≤ a then (if a < (l.length : Int) then ((impl_isNum.f (rd l a)).bind fun q => (if q = true then (impl_allNums.l0 k l u (wrap64 (a + 1))) else (some false))) else (none)) else (none)) else (some true)
def impl_allNums.f (k : Nat) (a : List Int) : Option (Bool) := impl_allNums.l0 k a (a.length : Int) 0
theorem impl_allNums.calls (k) (X) (c0) (l : List Int) (r : Bool) (w) (I : Kd.C (Kd.int .i64) w X l.length l) (J : l.length ≤ c0) (h : impl_allNums.f k l = some r) :
 Calls Try.prog 66 #[.slice X l.length c0] w fun e w' => e = .returned (.bool r) ∧ Drawn0 w w' := by
 have L := zK I
 have f0 := zK J
 clear I J
 have H : (impl_allNums.l0 k l (l.length : Int) 0) = some r := h
 clear h
 have H' := zK H
 clear H
 go_enter Try.func66, Try.ntmps66
 go_wp2
 go_loopg [7] k (fun kq v7 w' => ∃ (a : Int), v7 = .int .i64 a ∧ Aside0 (impl_allNums.l0 kq l (l.length : Int) a = some r) ∧ Aside0 (kq ≤ k) ∧ Drawn0 w w')
 case atStart => exact ⟨(0), zR, H', ⟨Nat.le_refl _⟩, zD⟩
 clear H'
 obtain ⟨a, rfl, HA, M, ⟨m1, rfl⟩⟩ := hrel
 rcases gk with _ | k1
 · exact absurd HA.out (by simp [impl_allNums.l0])
 have H := HA.out
 clear HA
 simp only [impl_allNums.l0] at H
 by_cases y : a < (l.length : Int)
 rotate_left
 · rw [if_neg y] at H
   have T := z2 y
   clear y
   obtain rfl := z5 H
   go_wp2
   go_ret
   exact ⟨zR, zD⟩
 rw [if_pos y] at H
 have T := z1 y
 clear y
 by_cases A : 0 ≤ a
 rotate_left
 · rw [if_neg A] at H
   exact absurd H (by simp)
 rw [if_pos A] at H
 have d0 := z1 A
 clear A
 by_cases B : a < (l.length : Int)
 rotate_left
 · rw [if_neg B] at H
   exact absurd H (by simp)
 rw [if_pos B] at H
 have e0 := z1 B
 clear B
 replace H := z6 H
 obtain ⟨U, O, H⟩ := H
 have A5 := zK O
 clear O
 by_cases D : U = true
 rotate_left
 · replace D := Bool.eq_false_iff.mpr D
   subst D
   rw [if_neg (show ¬ (false = true) by decide)] at H
   obtain rfl := z5 H
   have q : 0 ≤ (a : Int) := z3
   have u : a < (l.length : Int) := z3
   obtain ⟨E, x, z⟩ := Kd.at_int L.out a q u
   cases x
   replace q := eq_true q
   replace u := eq_true u
   go_wp2_with (first | ((with_reducible refine gc 82 rfl ?_); refine zF 12 Try.func82 #[.int .i64 (rd l a)] rfl zL ?_; (with_reducible refine (impl_isNum.calls (rd l a) false _ A5.out).mono ?_); rintro e w' ⟨rfl, ⟨nd, rfl⟩⟩; refine ⟨_, rfl, ?_⟩))
   go_ret
   exact ⟨zR, zD⟩
 subst D
 rw [if_pos rfl] at H
 have H' := zK H
 clear H
 have q : 0 ≤ (a : Int) := z3
 have u : a < (l.length : Int) := z3
 obtain ⟨E, x, z⟩ := Kd.at_int L.out a q u
 cases x
 replace q := eq_true q
 replace u := eq_true u
 go_wp2_with (first | ((with_reducible refine gc 82 rfl ?_); refine zF 12 Try.func82 #[.int .i64 (rd l a)] rfl zL ?_; (with_reducible refine (impl_isNum.calls (rd l a) true _ A5.out).mono ?_); rintro e w' ⟨rfl, ⟨nd, rfl⟩⟩; refine ⟨_, rfl, ?_⟩))
 go_roundg k1
 case measure => have := M.out; omega
 case rel => exact ⟨(wrap64 (a + 1)), zR, H', ⟨by have := M.out; omega⟩, zD⟩
end Go.Proofs.Ytmcboiffbcnalaa.PFnExactPlanOk
