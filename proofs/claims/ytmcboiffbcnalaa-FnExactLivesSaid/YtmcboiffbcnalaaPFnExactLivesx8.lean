-- Printed out of the translation by this session's own turned copy of a printer; Lean checks it.
import Derived.Test.YtmcboiffbcnalaaPFnExactLivesx0
import Derived.Test.YtmcboiffbcnalaaPFnExactLivesx2
import Derived.Test.YtmcboiffbcnalaaPFnExactLivesx7
namespace Go.Proofs.Ytmcboiffbcnalaa.PFnExactLives
open Go.RowKit Go.Proofs.YtmcboiffbcnalaaW.PrintWords Go.Proofs.YtmcboiffbcnalaaW.PrintLast Go.Proofs.YtmcboiffbcnalaaW.PrintMore
attribute [local go_sem] max2_int min2_int max_two min_two max_three min_three max_four min_four
set_option linter.unusedVariables false
set_option linter.unusedSimpArgs false
set_option maxHeartbeats 8000000
set_option maxRecDepth 100000
mutual
def spec_l12Life.l0 : Nat → Int → Int → Int → List Int → List Int → List (S71) → List (S79) → List Int → Int → Int → Int → Int → Option (Int × Int × Int × Int × Bool)
 | 0, _, _, _, _, _, _, _, _, _, _, _, _ => none
 | k + 1, M, O, I, u, y, z, l, q, A, B, E, J => if I < (l.length : Int) then (if 0 ≤ I then ((spec_l12Touches.f k ((rd_T79 l I).f0) ((rd_T79 l I).f1) ((rd_T79 l I).f2.f0) ((rd_T79 l I).f2.f1) ((rd_T79 l I).f2.f2) ((rd_T79 l I).f3) ((rd_T79 l I).f4) M).bind fun U => (if U = true then (if O < 0 then (spec_l12Life.l0 k M I (wrap64 (I + 1)) u y z l q A B E I) else (spec_l12Life.l0 k M O (wrap64 (I + 1)) u y z l q A B E I)) else (spec_l12Life.l0 k M O (wrap64 (I + 1)) u y z l q A B E J))) else (none)) else ((spec_l7Has.f k q M).bind fun T => ((spec_l12Given.f k u y z l q M).bind fun L => (if L = true then (spec_l12Life.j1 k O T L false u y z l q A B E J) else (spec_l12Life.j1 k O T L (decide (O > 0)) u y z l q A B E J))))
def spec_l12Life.j1 : Nat → Int → Bool → Bool → Bool → List Int → List Int → List (S71) → List (S79) → List Int → Int → Int → Int → Int → Option (Int × Int × Int × Int × Bool)
 | 0, _, _, _, _, _, _, _, _, _, _, _, _, _ => none
 | k + 1, L, M, J, O, l, q, u, y, z, A, B, I, E => if O = true then (spec_l12Life.j2 k L M J l q u y z A B L E) else (spec_l12Life.j2 k L M J l q u y z A B I E)
def spec_l12Life.j2 : Nat → Int → Bool → Bool → List Int → List Int → List (S71) → List (S79) → List Int → Int → Int → Int → Int → Option (Int × Int × Int × Int × Bool)
 | 0, _, _, _, _, _, _, _, _, _, _, _, _ => none
 | k + 1, L, M, A, B, E, I, y, J, q, l, u, z => if M = true then (if l > 0 then (if A = true then (some (q, l, u, (y.length : Int), true)) else (some (q, l, u, (y.length : Int), true))) else (some (q, l, u, (y.length : Int), false))) else (if l > 0 then (if A = true then (some (q, l, u, z, true)) else (some (q, l, u, z, decide (L ≥ 0)))) else (some (q, l, u, z, false)))
end
def spec_l12Life.f (k : Nat) (l : List Int) (u : List Int) (y : List (S71)) (z : List (S79)) (A : List Int) (q : Int) : Option (Int × Int × Int × Int × Bool) := if 0 ≤ q then (if q < (l.length : Int) then (spec_l12Life.l0 k q (-1) 0 l u y z A q (rd l q) 0 0) else (none)) else (none)
theorem spec_l12Life.calls (k) (n4) (s1) (A : List Int) (t1) (x1) (j0 : List Int) (y1) (A1) (m0 : List (S71)) (B1) (C1) (l : List (S79)) (V0) (X0) (i0 : List Int) (M) (r1) (r2) (r3) (r4) (r5 : Bool) (w) (y4 : Kd.C (Kd.int .i64) w n4 A.length A) (A4 : A.length ≤ s1) (B4 : Kd.C (Kd.int .i64) w t1 j0.length j0) (C4 : j0.length ≤ x1) (D4 : Kd.C k71 w y1 m0.length m0) (E4 : m0.length ≤ A1) (F4 : Kd.C k79 w B1 l.length l) (G4 : l.length ≤ C1) (I4 : Kd.C (Kd.int .i64) w V0 i0.length i0) (J4 : i0.length ≤ X0) (h : spec_l12Life.f k A j0 m0 l i0 M = some (r1, r2, r3, r4, r5)) :
 Calls Try.prog 21 #[.agg #[.slice n4 A.length s1, .slice t1 j0.length x1, .slice y1 m0.length A1, .slice B1 l.length C1, .slice V0 i0.length X0], .int .i64 M] w fun e w' => e = .returned (.tuple #[.agg #[.int .i64 r1, .int .i64 r2, .int .i64 r3, .int .i64 r4], .bool r5]) ∧ Below w.heap.size w w' := by
 have a3d := Try.underlying34
 have a3e := Try.underlying52
 have a3f := Try.underlying79
 have L4 := zK y4
 have q5 := zK A4
 clear y4 A4
 have s5 := zK B4
 have t5 := zK C4
 clear B4 C4
 have x5 := zK D4
 have y5 := zK E4
 clear D4 E4
 have V1 := zK F4
 have A5 := zK G4
 clear F4 G4
 have M4 := zK I4
 have N4 := zK J4
 clear I4 J4
 have HB := zK (Below.refl w.heap.size w)
 have H : (if 0 ≤ M then (if M < (A.length : Int) then (spec_l12Life.l0 k M (-1) 0 A j0 m0 l i0 M (rd A M) 0 0) else (none)) else (none)) = some (r1, r2, r3, r4, r5) := h
 clear h
 by_cases c3 : 0 ≤ M
 rotate_left
 · rw [if_neg c3] at H
   exact absurd H (by simp)
 rw [if_pos c3] at H
 have p4 := z1 c3
 clear c3
 by_cases c4 : M < (A.length : Int)
 rotate_left
 · rw [if_neg c4] at H
   exact absurd H (by simp)
 rw [if_pos c4] at H
 have s4 := z1 c4
 clear c4
 have H' := zK H
 clear H
 go_enter Try.func21, Try.ntmps21
 go_wp2_with (first | ((with_reducible refine gd 2 rfl ?_); refine zJ 2 #[.slice n4 A.length s1, .slice t1 j0.length x1, .slice y1 m0.length A1, .slice B1 l.length C1, .slice V0 i0.length X0] 34 ?_; intro e4 hg w5 hbox hb; have E0 := z8 hb; have F0 := zK (hbox); have G0 := z9 hg; have I0 := z9 hg; revert E0 F0 G0 I0; clear HB; intro HB u O9 R9; clear hb hbox hg) | ((with_reducible refine gd 4 rfl ?_); refine zJ 4 #[.int .i64 0, .int .i64 0, .int .i64 0, .int .i64 0] 52 ?_; intro C0 hg w6 hbox hb; have E0 := z7 u hb; have F0 := z8 hb; have G0 := zK (hbox); have I0 := z9 hg; have g5 := z9 hg; have i5 := zHH hg u; have j5 := zGG hg u; revert E0 F0 G0 I0 g5 i5 j5; clear u HB; intro u HB y S9 T9 I J; clear hb hbox hg; have a3g := I.out; have a3j := J.out; obtain ⟨a2, b2, d2, e2, g2, i2, l2, m2, n2, o2⟩ := zc5 u; have E1 : 0 ≤ (M : Int) := z3; have F1 : M < (A.length : Int) := z3; obtain ⟨X1, N5, J0⟩ := Kd.at_int L4.out M E1 F1; cases N5; (try replace J0 := zX HB J0); replace E1 := eq_true E1; replace F1 := eq_true F1) | ((with_reducible refine gd 6 rfl ?_); refine zJ 6 #[.int .i64 0, .int .i64 0, .int .i64 0, .int .i64 0] 52 ?_; intro g4 hg w9 hbox hb; have E0 := z7 u hb; have F0 := z7 y hb; have G0 := z8 hb; have I0 := zK (hbox); have g5 := z9 hg; have i5 := z9 hg; have j5 := zHH hg u; have m9 := zGG hg u; have n9 := zHH hg y; have o9 := zGG hg y; revert E0 F0 G0 I0 g5 i5 j5 m9 n9 o9; clear u y HB; intro u y HB z U9 V9 B E T U; clear hb hbox hg; have X9 := E.out; have a0a := B.out; have a0b := U.out; have a0c := T.out; obtain ⟨G1, I1, J1, L1, M1, N1, O1, R1⟩ := zc4 z))
 go_loopg [7, 8] k (fun kq v7 v8 w' => ∃ (D0 : Int) (q : Int) (L : Int), v7 = .int .i64 D0 ∧ v8 = .int .i64 q ∧ Aside0 (spec_l12Life.l0 kq M D0 q A j0 m0 l i0 M (rd A M) 0 L = some (r1, r2, r3, r4, r5)) ∧ Aside0 (kq ≤ k) ∧ Aside0 (w'.heap[e4]? = some (.cells #[(.slice (some X1) A.length s1), (.slice t1 j0.length x1), (.slice y1 m0.length A1), (.slice B1 l.length C1), (.slice V0 i0.length X0)] 34 (0, 0))) ∧ Aside0 (w'.heap[C0]? = some (.cells #[.int .i64 0, .int .i64 0, .int .i64 0, .int .i64 0] 52 (0, 0))) ∧ Aside0 (w'.heap[g4]? = some (.cells #[.int .i64 M, .int .i64 (rd A M), .int .i64 0, .int .i64 L] 52 (0, 0))) ∧ Aside0 (Below w.heap.size w w'))
 case atStart => exact ⟨((-1)), (0), (0), zR, zR, H', ⟨Nat.le_refl _⟩, ⟨zV u⟩, ⟨zV y⟩, ⟨zW z⟩, ⟨zB⟩⟩
 clear H'
 try clear c1
 try clear p1
 try clear q1
 try clear G5
 try clear c2
 try clear p2
 try clear c3
 try clear p4
 try clear c4
 try clear s4
 try clear c7
 try clear I5
 try clear J5
 try clear G1 I1 J1 L1 M1 N1 O1 R1
 try clear a2 b2 d2 e2 g2 i2 l2 m2 n2 o2
 try clear J0
 try clear E1
 try clear F1
 obtain ⟨D0, q, L, rfl, rfl, HA, o1, u, y, z, HB⟩ := hrel
 rcases gk with _ | k1
 · exact absurd HA.out (by simp [spec_l12Life.l0])
 have H := HA.out
 clear HA
 simp only [spec_l12Life.l0] at H
 by_cases T1 : q < (l.length : Int)
 · rw [if_pos T1] at H
   have i4 := z1 T1
   clear T1
   by_cases s2 : 0 ≤ q
   rotate_left
   · rw [if_neg s2] at H
     exact absurd H (by simp)
   rw [if_pos s2] at H
   have O4 := z1 s2
   clear s2
   replace H := z6 H
   obtain ⟨O5, l5, H⟩ := H
   have m5 := zK l5
   clear l5
   by_cases t2 : O5 = true
   rotate_left
   · replace t2 := Bool.eq_false_iff.mpr t2
     subst t2
     rw [if_neg (show ¬ (false = true) by decide)] at H
     have H' := zK H
     clear H
     have a0d := I.out
     have a0e := J.out
     have a0f := B.out
     have a0g := E.out
     obtain ⟨x2, y2, A2, B2, C2, D2, E2, F2, G2, I2⟩ := zc5 u
     have A0 : 0 ≤ (q : Int) := z3
     have B0 : q < (l.length : Int) := z3
     obtain ⟨R4, b1, d1, e1, g1, i1, l1, m1, n1, q2, X, a0, b0, c0, d0, e0, g0, n0, o0, p0, q0, s0, t0, x0, y0⟩ := at_T79 V1.out q A0 B0
     cases q2
     (try replace X := zX HB X)
     (try replace a0 := zX HB a0)
     (try replace b0 := zX HB b0)
     (try replace c0 := zX HB c0)
     (try replace d0 := zX HB d0)
     (try replace e0 := zX HB e0)
     (try replace g0 := zX HB g0)
     have L0 := zK o0
     have M0 := zK n0
     clear o0 n0
     have N0 := zK q0
     have O0 := zK p0
     clear q0 p0
     have R0 := zK t0
     have S0 := zK s0
     clear t0 s0
     have T0 := zK y0
     have U0 := zK x0
     clear y0 x0
     replace A0 := eq_true A0
     replace B0 := eq_true B0
     go_wp2_with (first | ((with_reducible refine gc 43 rfl ?_); refine zF 31 Try.func43 #[.agg #[.slice b1 ((rd_T79 l q).f0).length d1, .slice e1 ((rd_T79 l q).f1).length g1, .int .i64 ((rd_T79 l q).f2.f0), .int .i64 ((rd_T79 l q).f2.f1), .slice i1 ((rd_T79 l q).f2.f2).length l1, .bool ((rd_T79 l q).f3), .slice m1 ((rd_T79 l q).f4).length n1], .int .i64 M] rfl zL ?_; refine (spec_l12Touches.calls k1 _ _ ((rd_T79 l q).f0) _ _ ((rd_T79 l q).f1) ((rd_T79 l q).f2.f0) ((rd_T79 l q).f2.f1) _ _ ((rd_T79 l q).f2.f2) ((rd_T79 l q).f3) _ _ ((rd_T79 l q).f4) M false _ (zS L0) M0.out (zS N0) O0.out (zS R0) S0.out (zS T0) U0.out m5.out).mono ?_; rintro e w33 ⟨rfl, hb⟩; refine ⟨_, rfl, ?_⟩; have E0 := z7 u hb; have F0 := z7 y hb; have G0 := z7 z hb; have I0 := z8 hb; revert E0 F0 G0 I0; clear u y z HB; intro u y z HB))
     go_roundg k1
     case measure => have := o1.out; omega
     case rel => exact ⟨(D0), (wrap64 (q + 1)), (L), zR, zR, H', ⟨by have := o1.out; omega⟩, ⟨zM u⟩, ⟨zM y⟩, ⟨zM z⟩, ⟨zB⟩⟩
   subst t2
   rw [if_pos rfl] at H
   by_cases U1 : D0 < 0
   · rw [if_pos U1] at H
     have j4 := z1 U1
     clear U1
     have H' := zK H
     clear H
     have a0j := I.out
     have a0l := J.out
     have a0m := B.out
     have a0n := E.out
     obtain ⟨J2, L2, M2, N2, O2, R2, T2, U2, V2, X2⟩ := zc5 u
     have A0 : 0 ≤ (q : Int) := z3
     have B0 : q < (l.length : Int) := z3
     obtain ⟨R4, b1, d1, e1, g1, i1, l1, m1, n1, q2, X, a0, b0, c0, d0, e0, g0, n0, o0, p0, q0, s0, t0, x0, y0⟩ := at_T79 V1.out q A0 B0
     cases q2
     (try replace X := zX HB X)
     (try replace a0 := zX HB a0)
     (try replace b0 := zX HB b0)
     (try replace c0 := zX HB c0)
     (try replace d0 := zX HB d0)
     (try replace e0 := zX HB e0)
     (try replace g0 := zX HB g0)
     have L0 := zK o0
     have M0 := zK n0
     clear o0 n0
     have N0 := zK q0
     have O0 := zK p0
     clear q0 p0
     have R0 := zK t0
     have S0 := zK s0
     clear t0 s0
     have T0 := zK y0
     have U0 := zK x0
     clear y0 x0
     replace A0 := eq_true A0
     replace B0 := eq_true B0
     go_wp2_with (first | ((with_reducible refine gc 43 rfl ?_); refine zF 31 Try.func43 #[.agg #[.slice b1 ((rd_T79 l q).f0).length d1, .slice e1 ((rd_T79 l q).f1).length g1, .int .i64 ((rd_T79 l q).f2.f0), .int .i64 ((rd_T79 l q).f2.f1), .slice i1 ((rd_T79 l q).f2.f2).length l1, .bool ((rd_T79 l q).f3), .slice m1 ((rd_T79 l q).f4).length n1], .int .i64 M] rfl zL ?_; refine (spec_l12Touches.calls k1 _ _ ((rd_T79 l q).f0) _ _ ((rd_T79 l q).f1) ((rd_T79 l q).f2.f0) ((rd_T79 l q).f2.f1) _ _ ((rd_T79 l q).f2.f2) ((rd_T79 l q).f3) _ _ ((rd_T79 l q).f4) M true _ (zS L0) M0.out (zS N0) O0.out (zS R0) S0.out (zS T0) U0.out m5.out).mono ?_; rintro e w21 ⟨rfl, hb⟩; refine ⟨_, rfl, ?_⟩; have E0 := z7 u hb; have F0 := z7 y hb; have G0 := z7 z hb; have I0 := z8 hb; revert E0 F0 G0 I0; clear u y z HB; intro u y z HB; have a0o := U.out; have a0p := T.out; obtain ⟨a3, b3, d3, e3, g3, i3, j3, l3⟩ := zc4 z))
     go_roundg k1
     case measure => have := o1.out; omega
     case rel => exact ⟨(q), (wrap64 (q + 1)), (q), zR, zR, H', ⟨by have := o1.out; omega⟩, ⟨zV u⟩, ⟨zV y⟩, ⟨zW z⟩, ⟨zB⟩⟩
   rw [if_neg U1] at H
   have j4 := z2 U1
   clear U1
   have H' := zK H
   clear H
   have a0q := I.out
   have a0s := J.out
   have a0t := B.out
   have a0u := E.out
   obtain ⟨m3, n3, o3, p3, q3, s3, t3, x3, y3, A3⟩ := zc5 u
   have A0 : 0 ≤ (q : Int) := z3
   have B0 : q < (l.length : Int) := z3
   obtain ⟨R4, b1, d1, e1, g1, i1, l1, m1, n1, q2, X, a0, b0, c0, d0, e0, g0, n0, o0, p0, q0, s0, t0, x0, y0⟩ := at_T79 V1.out q A0 B0
   cases q2
   (try replace X := zX HB X)
   (try replace a0 := zX HB a0)
   (try replace b0 := zX HB b0)
   (try replace c0 := zX HB c0)
   (try replace d0 := zX HB d0)
   (try replace e0 := zX HB e0)
   (try replace g0 := zX HB g0)
   have L0 := zK o0
   have M0 := zK n0
   clear o0 n0
   have N0 := zK q0
   have O0 := zK p0
   clear q0 p0
   have R0 := zK t0
   have S0 := zK s0
   clear t0 s0
   have T0 := zK y0
   have U0 := zK x0
   clear y0 x0
   replace A0 := eq_true A0
   replace B0 := eq_true B0
   go_wp2_with (first | ((with_reducible refine gc 43 rfl ?_); refine zF 31 Try.func43 #[.agg #[.slice b1 ((rd_T79 l q).f0).length d1, .slice e1 ((rd_T79 l q).f1).length g1, .int .i64 ((rd_T79 l q).f2.f0), .int .i64 ((rd_T79 l q).f2.f1), .slice i1 ((rd_T79 l q).f2.f2).length l1, .bool ((rd_T79 l q).f3), .slice m1 ((rd_T79 l q).f4).length n1], .int .i64 M] rfl zL ?_; refine (spec_l12Touches.calls k1 _ _ ((rd_T79 l q).f0) _ _ ((rd_T79 l q).f1) ((rd_T79 l q).f2.f0) ((rd_T79 l q).f2.f1) _ _ ((rd_T79 l q).f2.f2) ((rd_T79 l q).f3) _ _ ((rd_T79 l q).f4) M true _ (zS L0) M0.out (zS N0) O0.out (zS R0) S0.out (zS T0) U0.out m5.out).mono ?_; rintro e w27 ⟨rfl, hb⟩; refine ⟨_, rfl, ?_⟩; have E0 := z7 u hb; have F0 := z7 y hb; have G0 := z7 z hb; have I0 := z8 hb; revert E0 F0 G0 I0; clear u y z HB; intro u y z HB; have a0x := U.out; have a0y := T.out; obtain ⟨B3, C3, D3, E3, F3, G3, I3, J3⟩ := zc4 z))
   go_roundg k1
   case measure => have := o1.out; omega
   case rel => exact ⟨(D0), (wrap64 (q + 1)), (q), zR, zR, H', ⟨by have := o1.out; omega⟩, ⟨zV u⟩, ⟨zV y⟩, ⟨zW z⟩, ⟨zB⟩⟩
 rw [if_neg T1] at H
 have i4 := z2 T1
 clear T1
 replace H := z6 H
 obtain ⟨l4, n5, H⟩ := H
 have t9 := zK n5
 clear n5
 replace H := z6 H
 obtain ⟨S1, o5, H⟩ := H
 have x9 := zK o5
 clear o5
 have t4 := zK H
 clear H
 have a0z := I.out
 have a1a := J.out
 have a1b := B.out
 have a1c := E.out
 obtain ⟨L3, M3, N3, O3, R3, S3, T3, U3, V3, X3⟩ := zc5 u
 go_upto_region 12 with (first | ((with_reducible refine gc 39 rfl ?_); refine zF 40 Try.func39 #[.slice V0 i0.length X0, .int .i64 M] rfl zL ?_; refine (spec_l7Has.calls k1 _ _ i0 M l4 _ (zS M4) N4.out t9.out).mono ?_; rintro e w' ⟨rfl, ⟨nd, rfl⟩⟩; refine ⟨_, rfl, ?_⟩) | ((with_reducible refine gc 44 rfl ?_); refine zF 43 Try.func44 #[.agg #[.slice (some X1) A.length s1, .slice t1 j0.length x1, .slice y1 m0.length A1, .slice B1 l.length C1, .slice V0 i0.length X0], .int .i64 M] rfl zL ?_; refine (spec_l12Given.calls k1 _ _ A _ _ j0 _ _ m0 _ _ l _ _ i0 M S1 _ (zS L4) q5.out (zS s5) t5.out (zS x5) y5.out (zS V1) A5.out (zS M4) N4.out x9.out).mono ?_; rintro e w40 ⟨rfl, hb⟩; refine ⟨_, rfl, ?_⟩; have E0 := z7 u hb; have F0 := z7 y hb; have G0 := z7 z hb; have I0 := z8 hb; revert E0 F0 G0 I0; clear u y z HB; intro u y z HB))
 (try simp only [Act.put, zq1, zq2, zq3])
 go_cut [49] (fun v49 wc => ∃ (kq : Nat) (D1 : Bool), v49 = .bool D1 ∧ Aside0 (spec_l12Life.j1 kq D0 l4 S1 D1 A j0 m0 l i0 M (rd A M) 0 L = some (r1, r2, r3, r4, r5)) ∧ Aside0 (kq ≤ k1) ∧ Aside0 (wc.heap[e4]? = some (.cells #[(.slice (some X1) A.length s1), (.slice t1 j0.length x1), (.slice y1 m0.length A1), (.slice B1 l.length C1), (.slice V0 i0.length X0)] 34 (0, 0))) ∧ Aside0 (wc.heap[C0]? = some (.cells #[.int .i64 0, .int .i64 0, .int .i64 0, .int .i64 0] 52 (0, 0))) ∧ Aside0 (wc.heap[g4]? = some (.cells #[.int .i64 M, .int .i64 (rd A M), .int .i64 0, .int .i64 L] 52 (0, 0))) ∧ Aside0 (Below w.heap.size w wc))
 case first =>
  have H := t4.out
  clear t4
  by_cases a4 : S1 = true
  · subst a4
    rw [if_pos rfl] at H
    have H' := zK H
    clear H
    go_wp2
    go_meet
    case rel => exact ⟨_, (false), zR, H', ⟨by have := o1.out; first | omega | exact Nat.le_refl _⟩, ⟨zM u⟩, ⟨zM y⟩, ⟨zM z⟩, ⟨zB⟩⟩
  replace a4 := Bool.eq_false_iff.mpr a4
  subst a4
  rw [if_neg (show ¬ (false = true) by decide)] at H
  have H' := zK H
  clear H
  go_wp2
  go_meet
  case rel => exact ⟨_, (decide (D0 > 0)), zR, H', ⟨by have := o1.out; first | omega | exact Nat.le_refl _⟩, ⟨zM u⟩, ⟨zM y⟩, ⟨zM z⟩, ⟨zB⟩⟩
 case rest =>
  clear t4
  try clear c1
  try clear p1
  try clear q1
  try clear G5
  try clear c2
  try clear p2
  try clear c3
  try clear p4
  try clear c4
  try clear s4
  try clear p6
  try clear c7
  try clear I5
  try clear J5
  try clear T1
  try clear i4
  try clear s2
  try clear O4
  try clear t2
  try clear U1
  try clear j4
  try clear A9
  try clear B9
  try clear L5
  try clear M5
  try clear R5
  try clear C9
  try clear D9
  try clear E9
  try clear F9
  try clear G9
  try clear I9
  try clear J9
  try clear L9
  try clear M9
  try clear N9
  try clear a4
  try clear G1 I1 J1 L1 M1 N1 O1 R1
  try clear J2 L2 M2 N2 O2 R2 T2 U2 V2 X2
  try clear a3 b3 d3 e3 g3 i3 j3 l3
  try clear m3 n3 o3 p3 q3 s3 t3 x3 y3 A3
  try clear B3 C3 D3 E3 F3 G3 I3 J3
  try clear x2 y2 A2 B2 C2 D2 E2 F2 G2 I2
  try clear L3 M3 N3 O3 R3 S3 T3 U3 V3 X3
  try clear a2 b2 d2 e2 g2 i2 l2 m2 n2 o2
  try clear J0
  try clear X
  try clear a0
  try clear b0
  try clear c0
  try clear d0
  try clear e0
  try clear g0
  try clear p1
  try clear E1
  try clear A0
  try clear p2
  try clear q1
  try clear F1
  try clear B0
  obtain ⟨kq, D1, rfl, HA, p5, u, y, z, HB⟩ := hcut
  cases kq with
  | zero => exact absurd HA.out (by simp [spec_l12Life.j1])
  | succ S5 =>
   have H := HA.out
   clear HA
   simp only [spec_l12Life.j1] at H
   have x4 := zK H
   clear H
   go_upto_if 49 with (fail)
   go_cut [] (fun wc => ∃ (kq : Nat) (O : Int), Aside0 (spec_l12Life.j2 kq D0 l4 S1 A j0 m0 l i0 M (rd A M) O L = some (r1, r2, r3, r4, r5)) ∧ Aside0 (kq ≤ S5) ∧ Aside0 (wc.heap[e4]? = some (.cells #[(.slice (some X1) A.length s1), (.slice t1 j0.length x1), (.slice y1 m0.length A1), (.slice B1 l.length C1), (.slice V0 i0.length X0)] 34 (0, 0))) ∧ Aside0 (wc.heap[C0]? = some (.cells #[.int .i64 0, .int .i64 0, .int .i64 0, .int .i64 0] 52 (0, 0))) ∧ Aside0 (wc.heap[g4]? = some (.cells #[.int .i64 M, .int .i64 (rd A M), .int .i64 O, .int .i64 L] 52 (0, 0))) ∧ Aside0 (Below w.heap.size w wc))
   case first =>
    have H := x4.out
    clear x4
    by_cases m4 : D1 = true
    rotate_left
    · replace m4 := Bool.eq_false_iff.mpr m4
      subst m4
      rw [if_neg (show ¬ (false = true) by decide)] at H
      have H' := zK H
      clear H
      go_wp2
      go_meet
      case rel => exact ⟨_, (0), H', ⟨by have := o1.out; have := p5.out; first | omega | exact Nat.le_refl _⟩, ⟨zM u⟩, ⟨zM y⟩, ⟨zM z⟩, ⟨zB⟩⟩
    subst m4
    rw [if_pos rfl] at H
    have H' := zK H
    clear H
    have a1d := E.out
    have a1e := B.out
    have a1f := U.out
    have a1g := T.out
    obtain ⟨V4, X4, a5, b5, c5, d5, e5, f5⟩ := zc4 z
    go_wp2
    go_meet
    case rel => exact ⟨_, (D0), H', ⟨by have := o1.out; have := p5.out; first | omega | exact Nat.le_refl _⟩, ⟨zV u⟩, ⟨zV y⟩, ⟨zW z⟩, ⟨zB⟩⟩
   case rest =>
    clear x4
    try clear c1
    try clear p1
    try clear q1
    try clear G5
    try clear c2
    try clear p2
    try clear c3
    try clear p4
    try clear c4
    try clear s4
    try clear p6
    try clear c7
    try clear I5
    try clear J5
    try clear T1
    try clear i4
    try clear s2
    try clear O4
    try clear t2
    try clear U1
    try clear j4
    try clear A9
    try clear B9
    try clear L5
    try clear M5
    try clear R5
    try clear C9
    try clear D9
    try clear E9
    try clear F9
    try clear G9
    try clear I9
    try clear J9
    try clear L9
    try clear M9
    try clear N9
    try clear a4
    try clear m4
    try clear c44
    try clear c45
    try clear G1 I1 J1 L1 M1 N1 O1 R1
    try clear J2 L2 M2 N2 O2 R2 T2 U2 V2 X2
    try clear a3 b3 d3 e3 g3 i3 j3 l3
    try clear m3 n3 o3 p3 q3 s3 t3 x3 y3 A3
    try clear B3 C3 D3 E3 F3 G3 I3 J3
    try clear x2 y2 A2 B2 C2 D2 E2 F2 G2 I2
    try clear L3 M3 N3 O3 R3 S3 T3 U3 V3 X3
    try clear V4 X4 a5 b5 c5 d5 e5 f5
    try clear a2 b2 d2 e2 g2 i2 l2 m2 n2 o2
    try clear J0
    try clear X
    try clear a0
    try clear b0
    try clear c0
    try clear d0
    try clear e0
    try clear g0
    try clear p1
    try clear L5
    try clear E1
    try clear A0
    try clear p2
    try clear p6
    try clear q1
    try clear M5
    try clear F1
    try clear B0
    obtain ⟨kq, O, HA, a3l, u, y, z, HB⟩ := hcut
    cases kq with
    | zero => exact absurd HA.out (by simp [spec_l12Life.j2])
    | succ a3m =>
     have H := HA.out
     clear HA
     simp only [spec_l12Life.j2] at H
     by_cases S4 : l4 = true
     rotate_left
     · replace S4 := Bool.eq_false_iff.mpr S4
       subst S4
       rw [if_neg (show ¬ (false = true) by decide)] at H
       by_cases b4 : (rd A M) > 0
       rotate_left
       · rw [if_neg b4] at H
         have E5 := z2 b4
         clear b4
         simp only [Option.some.injEq, Prod.mk.injEq] at H
         obtain ⟨rfl, rfl, rfl, rfl, rfl⟩ := H
         have a1j := E.out
         have a1l := B.out
         have a1m := U.out
         have a1n := T.out
         obtain ⟨T5, U5, V5, X5, a6, b6, c6, d6⟩ := zc4 z
         have a1o := J.out
         have a1p := I.out
         obtain ⟨e6, f6, g6, i6, j6, l6, m6, n6⟩ := zc4 y
         go_wp2
         refine bodyPost_ret (results_ct rfl _ _ C0 52 #[.int .i64 M, .int .i64 (rd A M), .int .i64 O, .int .i64 L] (0, 0) _ rfl (zW y) Try.underlying52 rfl (by kernel_rfl)) rfl ?_
         exact ⟨zE, zB⟩
       rw [if_pos b4] at H
       have E5 := z1 b4
       clear b4
       by_cases T4 : S1 = true
       · subst T4
         rw [if_pos rfl] at H
         simp only [Option.some.injEq, Prod.mk.injEq] at H
         obtain ⟨rfl, rfl, rfl, rfl, rfl⟩ := H
         have a1q := E.out
         have a1s := B.out
         have a1t := U.out
         have a1u := T.out
         obtain ⟨o6, q6, s6, t6, x6, y6, A6, B6⟩ := zc4 z
         have a1x := J.out
         have a1y := I.out
         obtain ⟨C6, D6, E6, F6, G6, I6, J6, L6⟩ := zc4 y
         go_wp2
         refine bodyPost_ret (results_ct rfl _ _ C0 52 #[.int .i64 M, .int .i64 (rd A M), .int .i64 O, .int .i64 L] (0, 0) _ rfl (zW y) Try.underlying52 rfl (by kernel_rfl)) rfl ?_
         exact ⟨zE, zB⟩
       replace T4 := Bool.eq_false_iff.mpr T4
       subst T4
       rw [if_neg (show ¬ (false = true) by decide)] at H
       simp only [Option.some.injEq, Prod.mk.injEq] at H
       obtain ⟨rfl, rfl, rfl, rfl, rfl⟩ := H
       have a1z := E.out
       have a2a := B.out
       have a2b := U.out
       have a2c := T.out
       obtain ⟨M6, N6, O6, R6, S6, T6, U6, V6⟩ := zc4 z
       have a2d := J.out
       have a2e := I.out
       obtain ⟨X6, a7, b7, d7, e7, f7, g7, i7⟩ := zc4 y
       go_wp2
       refine bodyPost_ret (results_ct rfl _ _ C0 52 #[.int .i64 M, .int .i64 (rd A M), .int .i64 O, .int .i64 L] (0, 0) _ rfl (zW y) Try.underlying52 rfl (by kernel_rfl)) rfl ?_
       exact ⟨zE, zB⟩
     subst S4
     rw [if_pos rfl] at H
     by_cases d4 : (rd A M) > 0
     rotate_left
     · rw [if_neg d4] at H
       have F5 := z2 d4
       clear d4
       simp only [Option.some.injEq, Prod.mk.injEq] at H
       obtain ⟨rfl, rfl, rfl, rfl, rfl⟩ := H
       have a2f := I.out
       have a2g := J.out
       have a2j := B.out
       have a2l := E.out
       obtain ⟨j7, l7, m7, n7, o7, p7, q7, s7, t7, x7⟩ := zc5 u
       have a2m := U.out
       have a2n := T.out
       obtain ⟨y7, A7, B7, C7, D7, E7, F7, G7⟩ := zc4 z
       obtain ⟨I7, J7, L7, M7, N7, O7, R7, S7⟩ := zc4 y
       go_wp2
       refine bodyPost_ret (results_ct rfl _ _ C0 52 #[.int .i64 M, .int .i64 (rd A M), .int .i64 O, .int .i64 (l.length : Int)] (0, 0) _ rfl (zW y) Try.underlying52 rfl (by kernel_rfl)) rfl ?_
       exact ⟨zE, zB⟩
     rw [if_pos d4] at H
     have F5 := z1 d4
     clear d4
     by_cases U4 : S1 = true
     · subst U4
       rw [if_pos rfl] at H
       simp only [Option.some.injEq, Prod.mk.injEq] at H
       obtain ⟨rfl, rfl, rfl, rfl, rfl⟩ := H
       have a2o := I.out
       have a2p := J.out
       have a2q := B.out
       have a2s := E.out
       obtain ⟨T7, U7, V7, X7, a8, b8, c8, d8, e8, f8⟩ := zc5 u
       have a2t := U.out
       have a2u := T.out
       obtain ⟨g8, i8, j8, l8, m8, n8, o8, p8⟩ := zc4 z
       obtain ⟨q8, s8, t8, x8, y8, A8, B8, C8⟩ := zc4 y
       go_wp2
       refine bodyPost_ret (results_ct rfl _ _ C0 52 #[.int .i64 M, .int .i64 (rd A M), .int .i64 O, .int .i64 (l.length : Int)] (0, 0) _ rfl (zW y) Try.underlying52 rfl (by kernel_rfl)) rfl ?_
       exact ⟨zE, zB⟩
     replace U4 := Bool.eq_false_iff.mpr U4
     subst U4
     rw [if_neg (show ¬ (false = true) by decide)] at H
     simp only [Option.some.injEq, Prod.mk.injEq] at H
     obtain ⟨rfl, rfl, rfl, rfl, rfl⟩ := H
     have a2x := I.out
     have a2y := J.out
     have a2z := B.out
     have a3a := E.out
     obtain ⟨D8, E8, F8, G8, I8, J8, L8, M8, N8, O8⟩ := zc5 u
     have a3b := U.out
     have a3c := T.out
     obtain ⟨R8, S8, T8, U8, V8, X8, a9, b9⟩ := zc4 z
     obtain ⟨c9, d9, e9, f9, g9, i9, j9, l9⟩ := zc4 y
     go_wp2
     refine bodyPost_ret (results_ct rfl _ _ C0 52 #[.int .i64 M, .int .i64 (rd A M), .int .i64 O, .int .i64 (l.length : Int)] (0, 0) _ rfl (zW y) Try.underlying52 rfl (by kernel_rfl)) rfl ?_
     exact ⟨zE, zB⟩
end Go.Proofs.Ytmcboiffbcnalaa.PFnExactLives
