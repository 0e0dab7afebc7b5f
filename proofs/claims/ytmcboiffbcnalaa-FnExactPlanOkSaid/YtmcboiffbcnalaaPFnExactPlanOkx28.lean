-- Printed out of the translation by this session's own turned copy of a printer; Lean checks it.
import Derived.Test.YtmcboiffbcnalaaPFnExactPlanOkx0
import Derived.Test.YtmcboiffbcnalaaPFnExactPlanOkx26
import Derived.Test.YtmcboiffbcnalaaPFnExactPlanOkx27
namespace Go.Proofs.Ytmcboiffbcnalaa.PFnExactPlanOk
open Go.RowKit Go.Proofs.YtmcboiffbcnalaaW.PrintWords Go.Proofs.YtmcboiffbcnalaaW.PrintLast Go.Proofs.YtmcboiffbcnalaaW.PrintMore
attribute [local go_sem] max2_int min2_int max_two min_two max_three min_three max_four min_four
set_option linter.unusedVariables false
set_option linter.unusedSimpArgs false
set_option maxHeartbeats 8000000
set_option maxRecDepth 100000
def laws_eqKernel.f (k : Nat) (a : List Int) (l : List (S76)) (q : Int) (u : Int) (x : List Int) (y : Bool) (z : List (S122)) (A : List Int) (B : List (S76)) (D : Int) (E : Int) (I : List Int) (J : Bool) (L : List (S122)) : Option (Bool) := (laws_eqIntS.f k a A).bind fun M => (if M = true then ((laws_eqAccessS.f k l B).bind fun O => (if O = true then ((laws_eqAccess.f k q u x D E I).bind fun T => (if T = true then (if (y != J) = true then (some false) else ((laws_eqCalcS.f k z L).bind fun U => (if U = true then (some true) else (some false)))) else (some false))) else (some false))) else (some false))
theorem laws_eqKernel.calls (k) (b0) (c0) (x : List Int) (d0) (e0) (y : List (S76)) (O) (T) (f0) (g0) (z : List Int) (q : Bool) (i0) (j0) (A : List (S122)) (l0) (m0) (B : List Int) (n0) (o0) (D : List (S76)) (U) (X) (p0) (q0) (E : List Int) (u : Bool) (s0) (t0) (I : List (S122)) (r : Bool) (w) (E0 : Kd.C (Kd.int .i64) w b0 x.length x) (F0 : x.length ≤ c0) (G0 : Kd.C k76 w d0 y.length y) (I0 : y.length ≤ e0) (J0 : Kd.C (Kd.int .i64) w f0 z.length z) (L0 : z.length ≤ g0) (M0 : Kd.C k122 w i0 A.length A) (N0 : A.length ≤ j0) (O0 : Kd.C (Kd.int .i64) w l0 B.length B) (R0 : B.length ≤ m0) (S0 : Kd.C k76 w n0 D.length D) (T0 : D.length ≤ o0) (U0 : Kd.C (Kd.int .i64) w p0 E.length E) (V0 : E.length ≤ q0) (X0 : Kd.C k122 w s0 I.length I) (a1 : I.length ≤ t0) (h : laws_eqKernel.f k x y O T z q A B D U X E u I = some r) :
 Calls Try.prog 58 #[.agg #[.slice b0 x.length c0, .slice d0 y.length e0, .int .i64 O, .int .i64 T, .slice f0 z.length g0, .bool q, .slice i0 A.length j0], .agg #[.slice l0 B.length m0, .slice n0 D.length o0, .int .i64 U, .int .i64 X, .slice p0 E.length q0, .bool u, .slice s0 I.length t0]] w fun e w' => e = .returned (.bool r) ∧ Below w.heap.size w w' := by
 have q4 := Try.underlying79
 have s4 := Try.underlying76
 have i1 := zK E0
 have j1 := zK F0
 clear E0 F0
 have l1 := zK G0
 have m1 := zK I0
 clear G0 I0
 have n1 := zK J0
 have o1 := zK L0
 clear J0 L0
 have p1 := zK M0
 have q1 := zK N0
 clear M0 N0
 have s1 := zK O0
 have t1 := zK R0
 clear O0 R0
 have x1 := zK S0
 have y1 := zK T0
 clear S0 T0
 have A1 := zK U0
 have B1 := zK V0
 clear U0 V0
 have C1 := zK X0
 have D1 := zK a1
 clear X0 a1
 have HB := zK (Below.refl w.heap.size w)
 have H : ((laws_eqIntS.f k x B).bind fun A0 => (if A0 = true then ((laws_eqAccessS.f k y D).bind fun B0 => (if B0 = true then ((laws_eqAccess.f k O T z U X E).bind fun C0 => (if C0 = true then (if (q != u) = true then (some false) else ((laws_eqCalcS.f k A I).bind fun D0 => (if D0 = true then (some true) else (some false)))) else (some false))) else (some false))) else (some false))) = some r := h
 clear h
 replace H := z6 H
 obtain ⟨A0, E1, H⟩ := H
 have A3 := zK E1
 clear E1
 rcases zN (A0 = true) with c4 | c4
 replace c4 := Bool.eq_false_iff.mpr c4
 subst c4
 rw [if_neg (show ¬ (false = true) by decide)] at H
 obtain rfl := z5 H
 rotate_left
 subst c4
 rw [if_pos rfl] at H
 replace H := z6 H
 obtain ⟨B0, F1, H⟩ := H
 have A5 := zK F1
 clear F1
 rcases zN (B0 = true) with c6 | c6
 replace c6 := Bool.eq_false_iff.mpr c6
 subst c6
 rw [if_neg (show ¬ (false = true) by decide)] at H
 obtain rfl := z5 H
 rotate_left
 subst c6
 rw [if_pos rfl] at H
 replace H := z6 H
 obtain ⟨C0, G1, H⟩ := H
 have A7 := zK G1
 clear G1
 rcases zN (C0 = true) with c8 | c8
 replace c8 := Bool.eq_false_iff.mpr c8
 subst c8
 rw [if_neg (show ¬ (false = true) by decide)] at H
 obtain rfl := z5 H
 rotate_left
 subst c8
 rw [if_pos rfl] at H
 by_cases c9 : (q != u) = true
 rw [if_pos c9] at H
 have I1 : (q != u) = true := c9
 (try (have J1 : decide (q = u) = false := by simpa using c9))
 (try (have L1 : (q == u) = false := by simpa using c9))
 (try (have A4 : ¬ (q = u) := by simpa using c9))
 clear c9
 obtain rfl := z5 H
 rotate_left
 rw [if_neg c9] at H
 have I1 : (q != u) = false := by simpa using c9
 (try (have J1 : decide (q = u) = true := by simpa using c9))
 (try (have L1 : (q == u) = true := by simpa using c9))
 clear c9
 replace H := z6 H
 obtain ⟨D0, f1, H⟩ := H
 have b4 := zK f1
 clear f1
 by_cases b1 : D0 = true
 subst b1
 rw [if_pos rfl] at H
 obtain rfl := z5 H
 rotate_left
 replace b1 := Bool.eq_false_iff.mpr b1
 subst b1
 rw [if_neg (show ¬ (false = true) by decide)] at H
 obtain rfl := z5 H
 all_goals go_enter Try.func58, Try.ntmps58
 all_goals go_wp2_with (first | ((with_reducible refine gd 2 rfl ?_); refine zJ 2 #[.slice b0 x.length c0, .slice d0 y.length e0, .int .i64 O, .int .i64 T, .slice f0 z.length g0, .bool q, .slice i0 A.length j0] 79 ?_; intro g4 hg B4 hbox hb; have J := z8 hb; have L := zK (hbox); have M := z9 hg; have g1 := z9 hg; revert J L M g1; clear HB; intro HB a i4 j4; clear hb hbox hg) | ((with_reducible refine gd 3 rfl ?_); refine zJ 3 #[.slice l0 B.length m0, .slice n0 D.length o0, .int .i64 U, .int .i64 X, .slice p0 E.length q0, .bool u, .slice s0 I.length t0] 79 ?_; intro l4 hg C4 hbox hb; have J := z7 a hb; have L := z8 hb; have M := zK (hbox); have g1 := z9 hg; have d4 := z9 hg; have e4 := zHH hg a; have f4 := zGG hg a; revert J L M g1 d4 e4 f4; clear a HB; intro a HB l m4 n4 x0 y0; clear hb hbox hg; have o4 := x0.out; have p4 := y0.out; obtain ⟨M1, N1, O1, R1, S1, T1, U1, V1, X1, a2, b2, c2, d2, e2⟩ := zc7 a; obtain ⟨f2, g2, i2, j2, l2, m2, n2, o2, p2, q2, s2, t2, x2, y2⟩ := zc7 l) | ((with_reducible refine gc 27 rfl ?_); refine zF 9 Try.func27 #[.slice b0 x.length c0, .slice l0 B.length m0] rfl zL ?_; refine (laws_eqIntS.calls k _ _ x _ _ B _ _ (zS i1) j1.out (zS s1) t1.out A3.out).mono ?_; rintro e w' ⟨rfl, ⟨nd, rfl⟩⟩; refine ⟨_, rfl, ?_⟩) | ((with_reducible refine gc 79 rfl ?_); refine zF 15 Try.func79 #[.slice d0 y.length e0, .slice n0 D.length o0] rfl zL ?_; refine (laws_eqAccessS.calls k _ _ y _ _ D _ _ (zS l1) m1.out (zS x1) y1.out A5.out).mono ?_; rintro e D4 ⟨rfl, hb⟩; refine ⟨_, rfl, ?_⟩; have J := z7 a hb; have L := z7 l hb; have M := z8 hb; revert J L M; clear a l HB; intro a l HB; obtain ⟨A2, B2, C2, D2, E2, F2, G2, I2, J2, L2, M2, N2, O2, R2⟩ := zc7 a; obtain ⟨T2, U2, V2, X2, a3, b3, c3, d3, e3, f3, g3, i3, j3, l3⟩ := zc7 l) | ((with_reducible refine gc 80 rfl ?_); refine zF 21 Try.func80 #[.agg #[.int .i64 O, .int .i64 T, .slice f0 z.length g0], .agg #[.int .i64 U, .int .i64 X, .slice p0 E.length q0]] rfl zL ?_; refine (laws_eqAccess.calls k O T _ _ z U X _ _ E _ _ (zS n1) o1.out (zS A1) B1.out A7.out).mono ?_; rintro e E4 ⟨rfl, hb⟩; refine ⟨_, rfl, ?_⟩; have J := z7 a hb; have L := z7 l hb; have M := z8 hb; revert J L M; clear a l HB; intro a l HB; obtain ⟨m3, n3, o3, p3, q3, s3, t3, x3, y3, B3, C3, D3, E3, F3⟩ := zc7 a; obtain ⟨G3, I3, J3, L3, M3, N3, O3, R3, S3, T3, U3, V3, X3, a4⟩ := zc7 l) | ((with_reducible refine gc 81 rfl ?_); refine zF 32 Try.func81 #[.slice i0 A.length j0, .slice s0 I.length t0] rfl zL ?_; refine (laws_eqCalcS.calls k _ _ A _ _ I _ _ (zS p1) q1.out (zS C1) D1.out b4.out).mono ?_; rintro e F4 ⟨rfl, hb⟩; refine ⟨_, rfl, ?_⟩; have J := z7 a hb; have L := z7 l hb; have M := z8 hb; revert J L M; clear a l HB; intro a l HB))
 all_goals go_ret
 all_goals exact ⟨zE, zB⟩
def laws_eqKernelS.l0 : Nat → List (S79) → List (S79) → Int → Option (Bool)
 | 0, _, _, _ => none
 | k + 1, l, q, a => if a < (l.length : Int) then (if 0 ≤ a then (if a < (q.length : Int) then ((laws_eqKernel.f k ((rd_T79 l a).f0) ((rd_T79 l a).f1) ((rd_T79 l a).f2.f0) ((rd_T79 l a).f2.f1) ((rd_T79 l a).f2.f2) ((rd_T79 l a).f3) ((rd_T79 l a).f4) ((rd_T79 q a).f0) ((rd_T79 q a).f1) ((rd_T79 q a).f2.f0) ((rd_T79 q a).f2.f1) ((rd_T79 q a).f2.f2) ((rd_T79 q a).f3) ((rd_T79 q a).f4)).bind fun u => (if u = true then (laws_eqKernelS.l0 k l q (wrap64 (a + 1))) else (some false))) else (none)) else (none)) else (some true)
def laws_eqKernelS.f (k : Nat) (a : List (S79)) (l : List (S79)) : Option (Bool) := if (a.length : Int) = (l.length : Int) then (laws_eqKernelS.l0 k a l 0) else (some false)
def laws_eqKernelS.T6 : Bool × List (List Nat × List Nat) := (true, [([], []), ([], []), ([0, 1], [0, 1]), ([2], [2]), ([], []), ([], []), ([4, 5], [4, 5]), ([6], [6]), ([3, 7], [3, 7]), ([8], [8])])
def laws_eqKernelS.B6 : List Nat := [0, 0, 3, 7, 0, 0, 48, 112, 255, 511]
theorem laws_eqKernelS.tab6 : rtab .any (opsOf Try.f34 6) = laws_eqKernelS.T6 := by kernel_rfl
theorem laws_eqKernelS.bits6 : waitsOk laws_eqKernelS.T6.2 laws_eqKernelS.B6 = true := by kernel_rfl
theorem laws_eqKernelS.calls (k) (A0) (c0) (u : List (S79)) (A1) (c1) (x : List (S79)) (r : Bool) (w) (y2 : Kd.C k79 w A0 u.length u) (A2 : u.length ≤ c0) (B2 : Kd.C k79 w A1 x.length x) (C2 : x.length ≤ c1) (h : laws_eqKernelS.f k u x = some r) :
 Calls Try.prog 34 #[.slice A0 u.length c0, .slice A1 x.length c1] w fun e w' => e = .returned (.bool r) ∧ Below w.heap.size w w' := by
 have j3 := Try.underlying79
 have D2 := zK y2
 have n3 := zK A2
 clear y2 A2
 have E2 := zK B2
 have o3 := zK C2
 clear B2 C2
 have HB := zK (Below.refl w.heap.size w)
 have H : (if (u.length : Int) = (x.length : Int) then (laws_eqKernelS.l0 k u x 0) else (some false)) = some r := h
 clear h
 by_cases c3 : (u.length : Int) = (x.length : Int)
 rotate_left
 · rw [if_neg c3] at H
   have g2 := beq_eq_false_iff_ne.mpr c3
   have i2 := bne_iff_ne.mpr c3
   have j2 : (u.length == x.length) = false := by first | simpa using c3 | (simp at c3 ⊢; omega)
   obtain rfl := z5 H
   go_enter Try.func34, Try.ntmps34
   go_wp2
   go_ret
   exact ⟨zE, zB⟩
 rw [if_pos c3] at H
 have g2 := beq_iff_eq.mpr c3
 have i2 := bne_eq_false_iff_eq.mpr c3
 have j2 : (u.length == x.length) = true := by first | simpa using c3 | (simp at c3 ⊢; omega)
 clear c3
 have H' := zK H
 clear H
 go_enter Try.func34, Try.ntmps34
 go_wp2
 go_loopg [5] k (fun kq v5 w' => ∃ (a : Int), v5 = .int .i64 a ∧ Aside0 (laws_eqKernelS.l0 kq u x a = some r) ∧ Aside0 (kq ≤ k) ∧ Aside0 (Below w.heap.size w w'))
 case atStart => exact ⟨(0), zR, H', ⟨Nat.le_refl _⟩, ⟨zB⟩⟩
 clear H'
 try clear c1
 try clear p2
 try clear c3
 try clear g2
 try clear i2
 try clear j2
 obtain ⟨a, rfl, HA, F2, HB⟩ := hrel
 rcases gk with _ | k1
 · exact absurd HA.out (by simp [laws_eqKernelS.l0])
 have H := HA.out
 clear HA
 simp only [laws_eqKernelS.l0] at H
 by_cases c4 : a < (u.length : Int)
 rotate_left
 · rw [if_neg c4] at H
   have J2 := z2 c4
   clear c4
   obtain rfl := z5 H
   go_wp2
   go_ret
   exact ⟨zE, zB⟩
 rw [if_pos c4] at H
 have J2 := z1 c4
 clear c4
 by_cases c5 : 0 ≤ a
 rotate_left
 · rw [if_neg c5] at H
   exact absurd H (by simp)
 rw [if_pos c5] at H
 have l3 := z1 c5
 clear c5
 by_cases c6 : a < (x.length : Int)
 rotate_left
 · rw [if_neg c6] at H
   exact absurd H (by simp)
 rw [if_pos c6] at H
 have m3 := z1 c6
 clear c6
 replace H := z6 H
 obtain ⟨L2, G2, H⟩ := H
 have A7 := zK G2
 clear G2
 by_cases c8 : L2 = true
 rotate_left
 · replace c8 := Bool.eq_false_iff.mpr c8
   subst c8
   rw [if_neg (show ¬ (false = true) by decide)] at H
   obtain rfl := z5 H
   try go_wp2
   have b2 := zK (ze HB.out)
   revert b2
   clear HB
   intro HB
   have I1 : 0 ≤ (a : Int) := z3
   have J1 : a < (u.length : Int) := z3
   obtain ⟨l, i1, j1, m1, n1, o1, p1, q1, t1, c2, y, z, A, B, D, E, I, a0, b0, d0, e0, g0, i0, j0, m0⟩ := at_T79 D2.out a I1 J1
   have n0 := I
   have o0 := E
   have p0 := D
   have q0 := B
   have t0 := A
   have x0 := z
   have y0 := y
   cases c2
   (try replace y := zX HB y)
   (try replace z := zX HB z)
   (try replace A := zX HB A)
   (try replace B := zX HB B)
   (try replace D := zX HB D)
   (try replace E := zX HB E)
   (try replace I := zX HB I)
   have B0 := zK b0
   have N1 := zK a0
   clear b0 a0
   have C0 := zK e0
   have O1 := zK d0
   clear e0 d0
   have D0 := zK i0
   have R1 := zK g0
   clear i0 g0
   have E0 := zK m0
   have S1 := zK j0
   clear m0 j0
   replace I1 := eq_true I1
   replace J1 := eq_true J1
   have L1 : 0 ≤ (a : Int) := z3
   have M1 : a < (x.length : Int) := z3
   obtain ⟨q, x1, y1, B1, C1, D1, E1, F1, G1, d2, J, L, M, O, T, U, X, F0, G0, I0, J0, L0, M0, N0, O0⟩ := at_T79 E2.out a L1 M1
   have R0 := X
   have S0 := U
   have T0 := T
   have U0 := O
   have V0 := M
   have X0 := L
   have a1 := J
   cases d2
   (try replace J := zX HB J)
   (try replace L := zX HB L)
   (try replace M := zX HB M)
   (try replace O := zX HB O)
   (try replace T := zX HB T)
   (try replace U := zX HB U)
   (try replace X := zX HB X)
   have b1 := zK G0
   have T1 := zK F0
   clear G0 F0
   have d1 := zK J0
   have U1 := zK I0
   clear J0 I0
   have e1 := zK M0
   have V1 := zK L0
   clear M0 L0
   have g1 := zK O0
   have X1 := zK N0
   clear O0 N0
   replace L1 := eq_true L1
   replace M1 := eq_true M1
   refine start_ (n := 10) (S := fun w' => w'.cell? (l.add ((a).toNat * 7)) = some (.slice i1 ((rd_T79 u a).f0).length j1) ∧ w'.cell? ⟨(l.add ((a).toNat * 7)).block, (l.add ((a).toNat * 7)).off + 1, none⟩ = some (.slice m1 ((rd_T79 u a).f1).length n1) ∧ w'.cell? ⟨(l.add ((a).toNat * 7)).block, (l.add ((a).toNat * 7)).off + 2, none⟩ = some (.int .i64 ((rd_T79 u a).f2.f0)) ∧ w'.cell? ⟨(l.add ((a).toNat * 7)).block, (l.add ((a).toNat * 7)).off + 3, none⟩ = some (.int .i64 ((rd_T79 u a).f2.f1)) ∧ w'.cell? ⟨(l.add ((a).toNat * 7)).block, (l.add ((a).toNat * 7)).off + 4, none⟩ = some (.slice o1 ((rd_T79 u a).f2.f2).length p1) ∧ w'.cell? ⟨(l.add ((a).toNat * 7)).block, (l.add ((a).toNat * 7)).off + 5, none⟩ = some (.bool ((rd_T79 u a).f3)) ∧ w'.cell? ⟨(l.add ((a).toNat * 7)).block, (l.add ((a).toNat * 7)).off + 6, none⟩ = some (.slice q1 ((rd_T79 u a).f4).length t1) ∧ w'.cell? (q.add ((a).toNat * 7)) = some (.slice x1 ((rd_T79 x a).f0).length y1) ∧ w'.cell? ⟨(q.add ((a).toNat * 7)).block, (q.add ((a).toNat * 7)).off + 1, none⟩ = some (.slice B1 ((rd_T79 x a).f1).length C1) ∧ w'.cell? ⟨(q.add ((a).toNat * 7)).block, (q.add ((a).toNat * 7)).off + 2, none⟩ = some (.int .i64 ((rd_T79 x a).f2.f0)) ∧ w'.cell? ⟨(q.add ((a).toNat * 7)).block, (q.add ((a).toNat * 7)).off + 3, none⟩ = some (.int .i64 ((rd_T79 x a).f2.f1)) ∧ w'.cell? ⟨(q.add ((a).toNat * 7)).block, (q.add ((a).toNat * 7)).off + 4, none⟩ = some (.slice D1 ((rd_T79 x a).f2.f2).length E1) ∧ w'.cell? ⟨(q.add ((a).toNat * 7)).block, (q.add ((a).toNat * 7)).off + 5, none⟩ = some (.bool ((rd_T79 x a).f3)) ∧ w'.cell? ⟨(q.add ((a).toNat * 7)).block, (q.add ((a).toNat * 7)).off + 6, none⟩ = some (.slice F1 ((rd_T79 x a).f4).length G1)) (ds := []) (bl 10 0) (by kernel_rfl) rfl (by kernel_rfl) ⟨(zX HB y0:), (zX HB x0:), (zX HB t0:), (zX HB q0:), (zX HB p0:), (zX HB o0:), (zX HB n0:), (zX HB a1:), (zX HB X0:), (zX HB V0:), (zX HB U0:), (zX HB T0:), (zX HB S0:), (zX HB R0:)⟩ (fun hHeld => ?_); refine with_tabW laws_eqKernelS.tab6 laws_eqKernelS.bits6 (fun HT_ HW_ => ?_)
   generalize wr.drew = p3 at HB B0 C0 D0 E0 b1 d1 e1 g1 y z A B D E I J L M O T U X hHeld ⊢
   refine zP 0 17 (bl 10 1) HT_ ?_
   refine zP 1 18 (bl 10 3) HT_ ?_
   refine zP 2 19 (bl 10 7) HT_ ?_
   refine zP 4 21 (bl 10 23) HT_ ?_
   refine zP 5 22 (bl 10 55) HT_ ?_
   refine zP 6 23 (bl 10 119) HT_ ?_
   refine zT 3 20 (bl 10 127) rfl rfl HT_ HW_ hHeld (by rintro w' ⟨s0, s1, s2, s3, s4, s5, s6, s7, s8, s9, l2, m2, n2, o2⟩; go_simp; with_reducible rfl) ?_
   refine zT 7 24 (bl 10 255) rfl rfl HT_ HW_ hHeld (by rintro w' ⟨s0, s1, s2, s3, s4, s5, s6, s7, s8, s9, l2, m2, n2, o2⟩; go_simp; with_reducible rfl) ?_
   refine one_ (i := 8) (N := some 25) (bl 10 511) rfl rfl (one_of HT_.out (by kernel_rfl)) (by decide) (fun K hK => ?_)
   refine goes_ Try.func58 (by kernel_rfl) rfl #[.agg #[.slice i1 ((rd_T79 u a).f0).length j1, .slice m1 ((rd_T79 u a).f1).length n1, .int .i64 ((rd_T79 u a).f2.f0), .int .i64 ((rd_T79 u a).f2.f1), .slice o1 ((rd_T79 u a).f2.f2).length p1, .bool ((rd_T79 u a).f3), .slice q1 ((rd_T79 u a).f4).length t1], .agg #[.slice x1 ((rd_T79 x a).f0).length y1, .slice B1 ((rd_T79 x a).f1).length C1, .int .i64 ((rd_T79 x a).f2.f0), .int .i64 ((rd_T79 x a).f2.f1), .slice D1 ((rd_T79 x a).f2.f2).length E1, .bool ((rd_T79 x a).f3), .slice F1 ((rd_T79 x a).f4).length G1]] (by rfl) rfl rfl zL ?_
   refine (laws_eqKernel.calls k1 _ _ ((rd_T79 u a).f0) _ _ ((rd_T79 u a).f1) ((rd_T79 u a).f2.f0) ((rd_T79 u a).f2.f1) _ _ ((rd_T79 u a).f2.f2) ((rd_T79 u a).f3) _ _ ((rd_T79 u a).f4) _ _ ((rd_T79 x a).f0) _ _ ((rd_T79 x a).f1) ((rd_T79 x a).f2.f0) ((rd_T79 x a).f2.f1) _ _ ((rd_T79 x a).f2.f2) ((rd_T79 x a).f3) _ _ ((rd_T79 x a).f4) false _ (zS B0) N1.out (zS C0) O1.out (zS D0) R1.out (zS E0) S1.out (zS b1) T1.out (zS d1) U1.out (zS e1) V1.out (zS g1) X1.out A7.out).mono ?_
   rintro e q3 ⟨rfl, hb⟩
   refine ⟨_, rfl, ?_⟩
   have b2 := z8 hb
   revert b2
   clear HB
   intro HB
   (try clear hb)
   (try clear hb2)
   (try clear hk)
   (try clear hi)
   refine hK.out _ _ ⟨(zX HB y0:), (zX HB x0:), (zX HB t0:), (zX HB q0:), (zX HB p0:), (zX HB o0:), (zX HB n0:), (zX HB a1:), (zX HB X0:), (zX HB V0:), (zX HB U0:), (zX HB T0:), (zX HB S0:), (zX HB R0:)⟩ (fun hHeld => ?_)
   clear hK K
   refine zU 25 ?_
   refine zP 9 26 (bl 10 1023) HT_ ?_
   refine done_ (done_of HT_.out (by kernel_rfl)) ?_
   try go_wp2
   go_ret
   exact ⟨zE, zB⟩
 subst c8
 rw [if_pos rfl] at H
 have H' := zK H
 clear H
 try go_wp2
 have b2 := zK (ze HB.out)
 revert b2
 clear HB
 intro HB
 have I1 : 0 ≤ (a : Int) := z3
 have J1 : a < (u.length : Int) := z3
 obtain ⟨l, i1, j1, m1, n1, o1, p1, q1, t1, c2, y, z, A, B, D, E, I, a0, b0, d0, e0, g0, i0, j0, m0⟩ := at_T79 D2.out a I1 J1
 have n0 := I
 have o0 := E
 have p0 := D
 have q0 := B
 have t0 := A
 have x0 := z
 have y0 := y
 cases c2
 (try replace y := zX HB y)
 (try replace z := zX HB z)
 (try replace A := zX HB A)
 (try replace B := zX HB B)
 (try replace D := zX HB D)
 (try replace E := zX HB E)
 (try replace I := zX HB I)
 have B0 := zK b0
 have N1 := zK a0
 clear b0 a0
 have C0 := zK e0
 have O1 := zK d0
 clear e0 d0
 have D0 := zK i0
 have R1 := zK g0
 clear i0 g0
 have E0 := zK m0
 have S1 := zK j0
 clear m0 j0
 replace I1 := eq_true I1
 replace J1 := eq_true J1
 have L1 : 0 ≤ (a : Int) := z3
 have M1 : a < (x.length : Int) := z3
 obtain ⟨q, x1, y1, B1, C1, D1, E1, F1, G1, d2, J, L, M, O, T, U, X, F0, G0, I0, J0, L0, M0, N0, O0⟩ := at_T79 E2.out a L1 M1
 have R0 := X
 have S0 := U
 have T0 := T
 have U0 := O
 have V0 := M
 have X0 := L
 have a1 := J
 cases d2
 (try replace J := zX HB J)
 (try replace L := zX HB L)
 (try replace M := zX HB M)
 (try replace O := zX HB O)
 (try replace T := zX HB T)
 (try replace U := zX HB U)
 (try replace X := zX HB X)
 have b1 := zK G0
 have T1 := zK F0
 clear G0 F0
 have d1 := zK J0
 have U1 := zK I0
 clear J0 I0
 have e1 := zK M0
 have V1 := zK L0
 clear M0 L0
 have g1 := zK O0
 have X1 := zK N0
 clear O0 N0
 replace L1 := eq_true L1
 replace M1 := eq_true M1
 refine start_ (n := 10) (S := fun w' => w'.cell? (l.add ((a).toNat * 7)) = some (.slice i1 ((rd_T79 u a).f0).length j1) ∧ w'.cell? ⟨(l.add ((a).toNat * 7)).block, (l.add ((a).toNat * 7)).off + 1, none⟩ = some (.slice m1 ((rd_T79 u a).f1).length n1) ∧ w'.cell? ⟨(l.add ((a).toNat * 7)).block, (l.add ((a).toNat * 7)).off + 2, none⟩ = some (.int .i64 ((rd_T79 u a).f2.f0)) ∧ w'.cell? ⟨(l.add ((a).toNat * 7)).block, (l.add ((a).toNat * 7)).off + 3, none⟩ = some (.int .i64 ((rd_T79 u a).f2.f1)) ∧ w'.cell? ⟨(l.add ((a).toNat * 7)).block, (l.add ((a).toNat * 7)).off + 4, none⟩ = some (.slice o1 ((rd_T79 u a).f2.f2).length p1) ∧ w'.cell? ⟨(l.add ((a).toNat * 7)).block, (l.add ((a).toNat * 7)).off + 5, none⟩ = some (.bool ((rd_T79 u a).f3)) ∧ w'.cell? ⟨(l.add ((a).toNat * 7)).block, (l.add ((a).toNat * 7)).off + 6, none⟩ = some (.slice q1 ((rd_T79 u a).f4).length t1) ∧ w'.cell? (q.add ((a).toNat * 7)) = some (.slice x1 ((rd_T79 x a).f0).length y1) ∧ w'.cell? ⟨(q.add ((a).toNat * 7)).block, (q.add ((a).toNat * 7)).off + 1, none⟩ = some (.slice B1 ((rd_T79 x a).f1).length C1) ∧ w'.cell? ⟨(q.add ((a).toNat * 7)).block, (q.add ((a).toNat * 7)).off + 2, none⟩ = some (.int .i64 ((rd_T79 x a).f2.f0)) ∧ w'.cell? ⟨(q.add ((a).toNat * 7)).block, (q.add ((a).toNat * 7)).off + 3, none⟩ = some (.int .i64 ((rd_T79 x a).f2.f1)) ∧ w'.cell? ⟨(q.add ((a).toNat * 7)).block, (q.add ((a).toNat * 7)).off + 4, none⟩ = some (.slice D1 ((rd_T79 x a).f2.f2).length E1) ∧ w'.cell? ⟨(q.add ((a).toNat * 7)).block, (q.add ((a).toNat * 7)).off + 5, none⟩ = some (.bool ((rd_T79 x a).f3)) ∧ w'.cell? ⟨(q.add ((a).toNat * 7)).block, (q.add ((a).toNat * 7)).off + 6, none⟩ = some (.slice F1 ((rd_T79 x a).f4).length G1)) (ds := []) (bl 10 0) (by kernel_rfl) rfl (by kernel_rfl) ⟨(zX HB y0:), (zX HB x0:), (zX HB t0:), (zX HB q0:), (zX HB p0:), (zX HB o0:), (zX HB n0:), (zX HB a1:), (zX HB X0:), (zX HB V0:), (zX HB U0:), (zX HB T0:), (zX HB S0:), (zX HB R0:)⟩ (fun hHeld => ?_); refine with_tabW laws_eqKernelS.tab6 laws_eqKernelS.bits6 (fun HT_ HW_ => ?_)
 generalize wr.drew = w9 at HB B0 C0 D0 E0 b1 d1 e1 g1 y z A B D E I J L M O T U X hHeld ⊢
 refine zP 0 17 (bl 10 1) HT_ ?_
 refine zP 1 18 (bl 10 3) HT_ ?_
 refine zP 2 19 (bl 10 7) HT_ ?_
 refine zP 4 21 (bl 10 23) HT_ ?_
 refine zP 5 22 (bl 10 55) HT_ ?_
 refine zP 6 23 (bl 10 119) HT_ ?_
 refine zT 3 20 (bl 10 127) rfl rfl HT_ HW_ hHeld (by rintro w' ⟨s0, s1, s2, s3, s4, s5, s6, s7, s8, s9, l2, m2, n2, o2⟩; go_simp; with_reducible rfl) ?_
 refine zT 7 24 (bl 10 255) rfl rfl HT_ HW_ hHeld (by rintro w' ⟨s0, s1, s2, s3, s4, s5, s6, s7, s8, s9, l2, m2, n2, o2⟩; go_simp; with_reducible rfl) ?_
 refine one_ (i := 8) (N := some 25) (bl 10 511) rfl rfl (one_of HT_.out (by kernel_rfl)) (by decide) (fun K hK => ?_)
 refine goes_ Try.func58 (by kernel_rfl) rfl #[.agg #[.slice i1 ((rd_T79 u a).f0).length j1, .slice m1 ((rd_T79 u a).f1).length n1, .int .i64 ((rd_T79 u a).f2.f0), .int .i64 ((rd_T79 u a).f2.f1), .slice o1 ((rd_T79 u a).f2.f2).length p1, .bool ((rd_T79 u a).f3), .slice q1 ((rd_T79 u a).f4).length t1], .agg #[.slice x1 ((rd_T79 x a).f0).length y1, .slice B1 ((rd_T79 x a).f1).length C1, .int .i64 ((rd_T79 x a).f2.f0), .int .i64 ((rd_T79 x a).f2.f1), .slice D1 ((rd_T79 x a).f2.f2).length E1, .bool ((rd_T79 x a).f3), .slice F1 ((rd_T79 x a).f4).length G1]] (by rfl) rfl rfl zL ?_
 refine (laws_eqKernel.calls k1 _ _ ((rd_T79 u a).f0) _ _ ((rd_T79 u a).f1) ((rd_T79 u a).f2.f0) ((rd_T79 u a).f2.f1) _ _ ((rd_T79 u a).f2.f2) ((rd_T79 u a).f3) _ _ ((rd_T79 u a).f4) _ _ ((rd_T79 x a).f0) _ _ ((rd_T79 x a).f1) ((rd_T79 x a).f2.f0) ((rd_T79 x a).f2.f1) _ _ ((rd_T79 x a).f2.f2) ((rd_T79 x a).f3) _ _ ((rd_T79 x a).f4) true _ (zS B0) N1.out (zS C0) O1.out (zS D0) R1.out (zS E0) S1.out (zS b1) T1.out (zS d1) U1.out (zS e1) V1.out (zS g1) X1.out A7.out).mono ?_
 rintro e t3 ⟨rfl, hb⟩
 refine ⟨_, rfl, ?_⟩
 have b2 := z8 hb
 revert b2
 clear HB
 intro HB
 (try clear hb)
 (try clear hb2)
 (try clear hk)
 (try clear hi)
 refine hK.out _ _ ⟨(zX HB y0:), (zX HB x0:), (zX HB t0:), (zX HB q0:), (zX HB p0:), (zX HB o0:), (zX HB n0:), (zX HB a1:), (zX HB X0:), (zX HB V0:), (zX HB U0:), (zX HB T0:), (zX HB S0:), (zX HB R0:)⟩ (fun hHeld => ?_)
 clear hK K
 refine zU 25 ?_
 refine zP 9 26 (bl 10 1023) HT_ ?_
 refine done_ (done_of HT_.out (by kernel_rfl)) ?_
 try go_wp2
 go_roundg k1
 case measure => have := F2.out; omega
 case rel => exact ⟨(wrap64 (a + 1)), zR, H', ⟨by have := F2.out; omega⟩, ⟨zB⟩⟩
def laws_eqNest.f (k : Nat) (a : List Int) (l : List Int) (q : List (S71)) (u : List (S79)) (x : List Int) (y : List Int) (z : List Int) (A : List (S71)) (B : List (S79)) (D : List Int) : Option (Bool) := (laws_eqIntS.f k a y).bind fun E => (if E = true then ((laws_eqIntS.f k l z).bind fun I => (if I = true then ((laws_eqFixS.f k q A).bind fun J => (if J = true then ((laws_eqKernelS.f k u B).bind fun L => (if L = true then ((laws_eqIntS.f k x D).bind fun M => (if M = true then (some true) else (some false))) else (some false))) else (some false))) else (some false))) else (some false))
theorem laws_eqNest.calls (k) (O) (T) (q : List Int) (U) (X) (u : List Int) (a0) (b0) (x : List (S71)) (c0) (d0) (y : List (S79)) (e0) (f0) (z : List Int) (g0) (i0) (A : List Int) (j0) (l0) (B : List Int) (m0) (n0) (D : List (S71)) (o0) (p0) (E : List (S79)) (q0) (s0) (I : List Int) (r : Bool) (w) (F0 : Kd.C (Kd.int .i64) w O q.length q) (G0 : q.length ≤ T) (I0 : Kd.C (Kd.int .i64) w U u.length u) (J0 : u.length ≤ X) (L0 : Kd.C k71 w a0 x.length x) (M0 : x.length ≤ b0) (N0 : Kd.C k79 w c0 y.length y) (O0 : y.length ≤ d0) (R0 : Kd.C (Kd.int .i64) w e0 z.length z) (S0 : z.length ≤ f0) (T0 : Kd.C (Kd.int .i64) w g0 A.length A) (U0 : A.length ≤ i0) (V0 : Kd.C (Kd.int .i64) w j0 B.length B) (X0 : B.length ≤ l0) (a1 : Kd.C k71 w m0 D.length D) (b1 : D.length ≤ n0) (c1 : Kd.C k79 w o0 E.length E) (d1 : E.length ≤ p0) (e1 : Kd.C (Kd.int .i64) w q0 I.length I) (f1 : I.length ≤ s0) (h : laws_eqNest.f k q u x y z A B D E I = some r) :
 Calls Try.prog 15 #[.agg #[.slice O q.length T, .slice U u.length X, .slice a0 x.length b0, .slice c0 y.length d0, .slice e0 z.length f0], .agg #[.slice g0 A.length i0, .slice j0 B.length l0, .slice m0 D.length n0, .slice o0 E.length p0, .slice q0 I.length s0]] w fun e w' => e = .returned (.bool r) ∧ Below w.heap.size w w' := by
 have T3 := Try.underlying34
 have o1 := zK F0
 have p1 := zK G0
 clear F0 G0
 have q1 := zK I0
 have s1 := zK J0
 clear I0 J0
 have t1 := zK L0
 have x1 := zK M0
 clear L0 M0
 have y1 := zK N0
 have A1 := zK O0
 clear N0 O0
 have B1 := zK R0
 have C1 := zK S0
 clear R0 S0
 have D1 := zK T0
 have E1 := zK U0
 clear T0 U0
 have F1 := zK V0
 have G1 := zK X0
 clear V0 X0
 have I1 := zK a1
 have J1 := zK b1
 clear a1 b1
 have L1 := zK c1
 have M1 := zK d1
 clear c1 d1
 have N1 := zK e1
 have O1 := zK f1
 clear e1 f1
 have HB := zK (Below.refl w.heap.size w)
 have H : ((laws_eqIntS.f k q A).bind fun A0 => (if A0 = true then ((laws_eqIntS.f k u B).bind fun B0 => (if B0 = true then ((laws_eqFixS.f k x D).bind fun C0 => (if C0 = true then ((laws_eqKernelS.f k y E).bind fun D0 => (if D0 = true then ((laws_eqIntS.f k z I).bind fun E0 => (if E0 = true then (some true) else (some false))) else (some false))) else (some false))) else (some false))) else (some false))) = some r := h
 clear h
 replace H := z6 H
 obtain ⟨A0, R1, H⟩ := H
 have A3 := zK R1
 clear R1
 rcases zN (A0 = true) with c4 | c4
 replace c4 := Bool.eq_false_iff.mpr c4
 subst c4
 rw [if_neg (show ¬ (false = true) by decide)] at H
 obtain rfl := z5 H
 rotate_left
 subst c4
 rw [if_pos rfl] at H
 replace H := z6 H
 obtain ⟨B0, S1, H⟩ := H
 have A5 := zK S1
 clear S1
 rcases zN (B0 = true) with c6 | c6
 replace c6 := Bool.eq_false_iff.mpr c6
 subst c6
 rw [if_neg (show ¬ (false = true) by decide)] at H
 obtain rfl := z5 H
 rotate_left
 subst c6
 rw [if_pos rfl] at H
 replace H := z6 H
 obtain ⟨C0, T1, H⟩ := H
 have A7 := zK T1
 clear T1
 rcases zN (C0 = true) with c8 | c8
 replace c8 := Bool.eq_false_iff.mpr c8
 subst c8
 rw [if_neg (show ¬ (false = true) by decide)] at H
 obtain rfl := z5 H
 rotate_left
 subst c8
 rw [if_pos rfl] at H
 replace H := z6 H
 obtain ⟨D0, U1, H⟩ := H
 have A9 := zK U1
 clear U1
 rcases zN (D0 = true) with t0 | t0
 replace t0 := Bool.eq_false_iff.mpr t0
 subst t0
 rw [if_neg (show ¬ (false = true) by decide)] at H
 obtain rfl := z5 H
 rotate_left
 subst t0
 rw [if_pos rfl] at H
 replace H := z6 H
 obtain ⟨E0, m1, H⟩ := H
 have D3 := zK m1
 clear m1
 by_cases g1 : E0 = true
 subst g1
 rw [if_pos rfl] at H
 obtain rfl := z5 H
 rotate_left
 replace g1 := Bool.eq_false_iff.mpr g1
 subst g1
 rw [if_neg (show ¬ (false = true) by decide)] at H
 obtain rfl := z5 H
 all_goals go_enter Try.func15, Try.ntmps15
 all_goals go_wp2_with (first | ((with_reducible refine gd 2 rfl ?_); refine zJ 2 #[.slice O q.length T, .slice U u.length X, .slice a0 x.length b0, .slice c0 y.length d0, .slice e0 z.length f0] 34 ?_; intro I3 hg b4 hbox hb; have J := z8 hb; have L := zK (hbox); have M := z9 hg; have n1 := z9 hg; revert J L M n1; clear HB; intro HB a J3 L3; clear hb hbox hg) | ((with_reducible refine gd 3 rfl ?_); refine zJ 3 #[.slice g0 A.length i0, .slice j0 B.length l0, .slice m0 D.length n0, .slice o0 E.length p0, .slice q0 I.length s0] 34 ?_; intro M3 hg d4 hbox hb; have J := z7 a hb; have L := z8 hb; have M := zK (hbox); have n1 := z9 hg; have E3 := z9 hg; have F3 := zHH hg a; have G3 := zGG hg a; revert J L M n1 E3 F3 G3; clear a HB; intro a HB l N3 O3 x0 y0; clear hb hbox hg; have R3 := x0.out; have S3 := y0.out; obtain ⟨V1, X1, a2, b2, c2, d2, e2, f2, g2, i2⟩ := zc5 a; obtain ⟨j2, l2, m2, n2, o2, p2, q2, s2, t2, x2⟩ := zc5 l) | ((with_reducible refine gc 27 rfl ?_); refine zF 9 Try.func27 #[.slice O q.length T, .slice g0 A.length i0] rfl zL ?_; refine (laws_eqIntS.calls k _ _ q _ _ A _ _ (zS o1) p1.out (zS D1) E1.out A3.out).mono ?_; rintro e w' ⟨rfl, ⟨nd, rfl⟩⟩; refine ⟨_, rfl, ?_⟩) | ((with_reducible refine gc 27 rfl ?_); refine zF 15 Try.func27 #[.slice U u.length X, .slice j0 B.length l0] rfl zL ?_; refine (laws_eqIntS.calls k _ _ u _ _ B _ _ (zS q1) s1.out (zS F1) G1.out A5.out).mono ?_; rintro e w' ⟨rfl, ⟨nd, rfl⟩⟩; refine ⟨_, rfl, ?_⟩) | ((with_reducible refine gc 33 rfl ?_); refine zF 21 Try.func33 #[.slice a0 x.length b0, .slice m0 D.length n0] rfl zL ?_; refine (laws_eqFixS.calls k _ _ x _ _ D _ _ (zS t1) x1.out (zS I1) J1.out A7.out).mono ?_; rintro e e4 ⟨rfl, hb⟩; refine ⟨_, rfl, ?_⟩; have J := z7 a hb; have L := z7 l hb; have M := z8 hb; revert J L M; clear a l HB; intro a l HB; obtain ⟨y2, A2, B2, C2, D2, E2, F2, G2, I2, J2⟩ := zc5 a; obtain ⟨L2, M2, N2, O2, R2, T2, U2, V2, X2, a3⟩ := zc5 l) | ((with_reducible refine gc 34 rfl ?_); refine zF 27 Try.func34 #[.slice c0 y.length d0, .slice o0 E.length p0] rfl zL ?_; refine (laws_eqKernelS.calls k _ _ y _ _ E _ _ (zS y1) A1.out (zS L1) M1.out A9.out).mono ?_; rintro e f4 ⟨rfl, hb⟩; refine ⟨_, rfl, ?_⟩; have J := z7 a hb; have L := z7 l hb; have M := z8 hb; revert J L M; clear a l HB; intro a l HB; obtain ⟨b3, c3, d3, e3, f3, g3, i3, j3, l3, m3⟩ := zc5 a; obtain ⟨n3, o3, p3, q3, s3, t3, x3, y3, B3, C3⟩ := zc5 l) | ((with_reducible refine gc 27 rfl ?_); refine zF 33 Try.func27 #[.slice e0 z.length f0, .slice q0 I.length s0] rfl zL ?_; refine (laws_eqIntS.calls k _ _ z _ _ I _ _ (zS B1) C1.out (zS N1) O1.out D3.out).mono ?_; rintro e w' ⟨rfl, ⟨nd, rfl⟩⟩; refine ⟨_, rfl, ?_⟩))
 all_goals go_ret
 all_goals exact ⟨zE, zB⟩
end Go.Proofs.Ytmcboiffbcnalaa.PFnExactPlanOk
