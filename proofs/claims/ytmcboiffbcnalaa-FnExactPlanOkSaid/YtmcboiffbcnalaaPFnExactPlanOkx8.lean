-- Printed out of the translation by this session's own turned copy of a printer; Lean checks it.
import Derived.Test.YtmcboiffbcnalaaPFnExactPlanOkx0
import Derived.Test.YtmcboiffbcnalaaPFnExactPlanOkx2
import Derived.Test.YtmcboiffbcnalaaPFnExactPlanOkx7
namespace Go.Proofs.Ytmcboiffbcnalaa.PFnExactPlanOk
open Go.RowKit Go.Proofs.YtmcboiffbcnalaaW.PrintWords Go.Proofs.YtmcboiffbcnalaaW.PrintLast Go.Proofs.YtmcboiffbcnalaaW.PrintMore
attribute [local go_sem] max2_int min2_int max_two min_two max_three min_three max_four min_four
set_option linter.unusedVariables false
set_option linter.unusedSimpArgs false
set_option maxHeartbeats 8000000
set_option maxRecDepth 100000
mutual
def spec_l12Life.l0 : Nat → Int → Int → Int → List Int → List Int → List (S71) → List (S79) → List Int → Int → Int → Int → Int → Option (Int × Int × Int × Int × Bool)
 | 0, _, _, _, _, _, _, _, _, _, _, _, _ => none
 | k + 1, I, J, B, q, u, x, a, l, y, z, A, D => if B < (a.length : Int) then (if 0 ≤ B then ((spec_l12Touches.f k ((rd_T79 a B).f0) ((rd_T79 a B).f1) ((rd_T79 a B).f2.f0) ((rd_T79 a B).f2.f1) ((rd_T79 a B).f2.f2) ((rd_T79 a B).f3) ((rd_T79 a B).f4) I).bind fun M => (if M = true then (if J < 0 then (spec_l12Life.l0 k I B (wrap64 (B + 1)) q u x a l y z A B) else (spec_l12Life.l0 k I J (wrap64 (B + 1)) q u x a l y z A B)) else (spec_l12Life.l0 k I J (wrap64 (B + 1)) q u x a l y z A D))) else (none)) else ((spec_l7Has.f k l I).bind fun L => ((spec_l12Given.f k q u x a l I).bind fun E => (if E = true then (spec_l12Life.j1 k J L E false q u x a l y z A D) else (spec_l12Life.j1 k J L E (decide (J > 0)) q u x a l y z A D))))
def spec_l12Life.j1 : Nat → Int → Bool → Bool → Bool → List Int → List Int → List (S71) → List (S79) → List Int → Int → Int → Int → Int → Option (Int × Int × Int × Int × Bool)
 | 0, _, _, _, _, _, _, _, _, _, _, _, _, _ => none
 | k + 1, E, I, D, J, a, l, q, u, x, y, z, B, A => if J = true then (spec_l12Life.j2 k E I D a l q u x y z E A) else (spec_l12Life.j2 k E I D a l q u x y z B A)
def spec_l12Life.j2 : Nat → Int → Bool → Bool → List Int → List Int → List (S71) → List (S79) → List Int → Int → Int → Int → Int → Option (Int × Int × Int × Int × Bool)
 | 0, _, _, _, _, _, _, _, _, _, _, _, _ => none
 | k + 1, E, I, y, z, A, B, u, D, l, a, q, x => if I = true then (if a > 0 then (if y = true then (some (l, a, q, (u.length : Int), true)) else (some (l, a, q, (u.length : Int), true))) else (some (l, a, q, (u.length : Int), false))) else (if a > 0 then (if y = true then (some (l, a, q, x, true)) else (some (l, a, q, x, decide (E ≥ 0)))) else (some (l, a, q, x, false)))
end
def spec_l12Life.f (k : Nat) (a : List Int) (q : List Int) (u : List (S71)) (x : List (S79)) (y : List Int) (l : Int) : Option (Int × Int × Int × Int × Bool) := if 0 ≤ l then (if l < (a.length : Int) then (spec_l12Life.l0 k l (-1) 0 a q u x y l (rd a l) 0 0) else (none)) else (none)
theorem spec_l12Life.calls (k) (l4) (m1) (y : List Int) (n1) (o1) (e0 : List Int) (s1) (t1) (g0 : List (S71)) (x1) (y1) (a : List (S79)) (S0) (T0) (d0 : List Int) (I) (r1) (r2) (r3) (r4) (r5 : Bool) (w) (t4 : Kd.C (Kd.int .i64) w l4 y.length y) (x4 : y.length ≤ m1) (y4 : Kd.C (Kd.int .i64) w n1 e0.length e0) (A4 : e0.length ≤ o1) (B4 : Kd.C k71 w s1 g0.length g0) (C4 : g0.length ≤ t1) (D4 : Kd.C k79 w x1 a.length a) (E4 : a.length ≤ y1) (F4 : Kd.C (Kd.int .i64) w S0 d0.length d0) (G4 : d0.length ≤ T0) (h : spec_l12Life.f k y e0 g0 a d0 I = some (r1, r2, r3, r4, r5)) :
 Calls Try.prog 21 #[.agg #[.slice l4 y.length m1, .slice n1 e0.length o1, .slice s1 g0.length t1, .slice x1 a.length y1, .slice S0 d0.length T0], .int .i64 I] w fun e w' => e = .returned (.tuple #[.agg #[.int .i64 r1, .int .i64 r2, .int .i64 r3, .int .i64 r4], .bool r5]) ∧ Below w.heap.size w w' := by
 have a3j := Try.underlying34
 have a3l := Try.underlying52
 have a3m := Try.underlying79
 have I4 := zK t4
 have o5 := zK x4
 clear t4 x4
 have p5 := zK y4
 have q5 := zK A4
 clear y4 A4
 have s5 := zK B4
 have t5 := zK C4
 clear B4 C4
 have S1 := zK D4
 have x5 := zK E4
 clear D4 E4
 have J4 := zK F4
 have L4 := zK G4
 clear F4 G4
 have HB := zK (Below.refl w.heap.size w)
 have H : (if 0 ≤ I then (if I < (y.length : Int) then (spec_l12Life.l0 k I (-1) 0 y e0 g0 a d0 I (rd y I) 0 0) else (none)) else (none)) = some (r1, r2, r3, r4, r5) := h
 clear h
 by_cases c3 : 0 ≤ I
 rotate_left
 · rw [if_neg c3] at H
   exact absurd H (by simp)
 rw [if_pos c3] at H
 have n4 := z1 c3
 clear c3
 by_cases c4 : I < (y.length : Int)
 rotate_left
 · rw [if_neg c4] at H
   exact absurd H (by simp)
 rw [if_pos c4] at H
 have p4 := z1 c4
 clear c4
 have H' := zK H
 clear H
 go_enter Try.func21, Try.ntmps21
 go_wp2_with (first | ((with_reducible refine gd 2 rfl ?_); refine zJ 2 #[.slice l4 y.length m1, .slice n1 e0.length o1, .slice s1 g0.length t1, .slice x1 a.length y1, .slice S0 d0.length T0] 34 ?_; intro b4 hg w5 hbox hb; have B0 := z8 hb; have C0 := zK (hbox); have D0 := z9 hg; have E0 := z9 hg; revert B0 C0 D0 E0; clear HB; intro HB q U9 V9; clear hb hbox hg) | ((with_reducible refine gd 4 rfl ?_); refine zJ 4 #[.int .i64 0, .int .i64 0, .int .i64 0, .int .i64 0] 52 ?_; intro y0 hg w6 hbox hb; have B0 := z7 q hb; have C0 := z8 hb; have D0 := zK (hbox); have E0 := z9 hg; have e5 := z9 hg; have f5 := zHH hg q; have g5 := zGG hg q; revert B0 C0 D0 E0 e5 f5 g5; clear q HB; intro q HB u X9 a0a B D; clear hb hbox hg; have a3n := B.out; have a3o := D.out; obtain ⟨U1, V1, X1, a2, b2, d2, e2, g2, i2, l2⟩ := zc5 q; have B1 : 0 ≤ (I : Int) := z3; have C1 : I < (y.length : Int) := z3; obtain ⟨T1, N5, F0⟩ := Kd.at_int I4.out I B1 C1; cases N5; (try replace F0 := zX HB F0); replace B1 := eq_true B1; replace C1 := eq_true C1) | ((with_reducible refine gd 6 rfl ?_); refine zJ 6 #[.int .i64 0, .int .i64 0, .int .i64 0, .int .i64 0] 52 ?_; intro d4 hg w9 hbox hb; have B0 := z7 q hb; have C0 := z7 u hb; have D0 := z8 hb; have E0 := zK (hbox); have e5 := z9 hg; have f5 := z9 hg; have g5 := zHH hg q; have n9 := zGG hg q; have o9 := zHH hg u; have p9 := zGG hg u; revert B0 C0 D0 E0 e5 f5 g5 n9 o9 p9; clear q u HB; intro q u HB x a0b a0c z A L M; clear hb hbox hg; have a0d := A.out; have a0e := z.out; have a0f := M.out; have a0g := L.out; obtain ⟨D1, E1, F1, G1, I1, J1, L1, M1⟩ := zc4 x))
 go_loopg [7, 8] k (fun kq v7 v8 w' => ∃ (A0 : Int) (l : Int) (E : Int), v7 = .int .i64 A0 ∧ v8 = .int .i64 l ∧ Aside0 (spec_l12Life.l0 kq I A0 l y e0 g0 a d0 I (rd y I) 0 E = some (r1, r2, r3, r4, r5)) ∧ Aside0 (kq ≤ k) ∧ Aside0 (w'.heap[b4]? = some (.cells #[(.slice (some T1) y.length m1), (.slice n1 e0.length o1), (.slice s1 g0.length t1), (.slice x1 a.length y1), (.slice S0 d0.length T0)] 34 (0, 0))) ∧ Aside0 (w'.heap[y0]? = some (.cells #[.int .i64 0, .int .i64 0, .int .i64 0, .int .i64 0] 52 (0, 0))) ∧ Aside0 (w'.heap[d4]? = some (.cells #[.int .i64 I, .int .i64 (rd y I), .int .i64 0, .int .i64 E] 52 (0, 0))) ∧ Aside0 (Below w.heap.size w w'))
 case atStart => exact ⟨((-1)), (0), (0), zR, zR, H', ⟨Nat.le_refl _⟩, ⟨zV q⟩, ⟨zV u⟩, ⟨zW x⟩, ⟨zB⟩⟩
 clear H'
 try clear c1
 try clear p1
 try clear q1
 try clear E5
 try clear c2
 try clear p2
 try clear c3
 try clear n4
 try clear c4
 try clear p4
 try clear c7
 try clear F5
 try clear G5
 try clear D1 E1 F1 G1 I1 J1 L1 M1
 try clear U1 V1 X1 a2 b2 d2 e2 g2 i2 l2
 try clear F0
 try clear B1
 try clear C1
 obtain ⟨A0, l, E, rfl, rfl, HA, l1, q, u, x, HB⟩ := hrel
 rcases gk with _ | k1
 · exact absurd HA.out (by simp [spec_l12Life.l0])
 have H := HA.out
 clear HA
 simp only [spec_l12Life.l0] at H
 by_cases O1 : l < (a.length : Int)
 · rw [if_pos O1] at H
   have e4 := z1 O1
   clear O1
   by_cases n2 : 0 ≤ l
   rotate_left
   · rw [if_neg n2] at H
     exact absurd H (by simp)
   rw [if_pos n2] at H
   have M4 := z1 n2
   clear n2
   replace H := z6 H
   obtain ⟨O5, i5, H⟩ := H
   have j5 := zK i5
   clear i5
   by_cases o2 : O5 = true
   rotate_left
   · replace o2 := Bool.eq_false_iff.mpr o2
     subst o2
     rw [if_neg (show ¬ (false = true) by decide)] at H
     have H' := zK H
     clear H
     have a0j := B.out
     have a0l := D.out
     have a0m := z.out
     have a0n := A.out
     obtain ⟨s2, t2, x2, y2, A2, B2, C2, D2, E2, F2⟩ := zc5 q
     have t0 : 0 ≤ (l : Int) := z3
     have x0 : l < (a.length : Int) := z3
     obtain ⟨N4, U0, V0, X0, b1, d1, e1, g1, i1, m2, O, T, U, X, a0, b0, c0, i0, j0, m0, n0, o0, p0, q0, s0⟩ := at_T79 S1.out l t0 x0
     cases m2
     (try replace O := zX HB O)
     (try replace T := zX HB T)
     (try replace U := zX HB U)
     (try replace X := zX HB X)
     (try replace a0 := zX HB a0)
     (try replace b0 := zX HB b0)
     (try replace c0 := zX HB c0)
     have G0 := zK j0
     have I0 := zK i0
     clear j0 i0
     have J0 := zK n0
     have L0 := zK m0
     clear n0 m0
     have M0 := zK p0
     have N0 := zK o0
     clear p0 o0
     have O0 := zK s0
     have R0 := zK q0
     clear s0 q0
     replace t0 := eq_true t0
     replace x0 := eq_true x0
     go_wp2_with (first | ((with_reducible refine gc 43 rfl ?_); refine zF 31 Try.func43 #[.agg #[.slice U0 ((rd_T79 a l).f0).length V0, .slice X0 ((rd_T79 a l).f1).length b1, .int .i64 ((rd_T79 a l).f2.f0), .int .i64 ((rd_T79 a l).f2.f1), .slice d1 ((rd_T79 a l).f2.f2).length e1, .bool ((rd_T79 a l).f3), .slice g1 ((rd_T79 a l).f4).length i1], .int .i64 I] rfl zL ?_; refine (spec_l12Touches.calls k1 _ _ ((rd_T79 a l).f0) _ _ ((rd_T79 a l).f1) ((rd_T79 a l).f2.f0) ((rd_T79 a l).f2.f1) _ _ ((rd_T79 a l).f2.f2) ((rd_T79 a l).f3) _ _ ((rd_T79 a l).f4) I false _ (zS G0) I0.out (zS J0) L0.out (zS M0) N0.out (zS O0) R0.out j5.out).mono ?_; rintro e w33 ⟨rfl, hb⟩; refine ⟨_, rfl, ?_⟩; have B0 := z7 q hb; have C0 := z7 u hb; have D0 := z7 x hb; have E0 := z8 hb; revert B0 C0 D0 E0; clear q u x HB; intro q u x HB))
     go_roundg k1
     case measure => have := l1.out; omega
     case rel => exact ⟨(A0), (wrap64 (l + 1)), (E), zR, zR, H', ⟨by have := l1.out; omega⟩, ⟨zM q⟩, ⟨zM u⟩, ⟨zM x⟩, ⟨zB⟩⟩
   subst o2
   rw [if_pos rfl] at H
   by_cases R1 : A0 < 0
   · rw [if_pos R1] at H
     have g4 := z1 R1
     clear R1
     have H' := zK H
     clear H
     have a0o := B.out
     have a0p := D.out
     have a0q := z.out
     have a0s := A.out
     obtain ⟨G2, I2, J2, L2, M2, N2, O2, R2, T2, U2⟩ := zc5 q
     have t0 : 0 ≤ (l : Int) := z3
     have x0 : l < (a.length : Int) := z3
     obtain ⟨N4, U0, V0, X0, b1, d1, e1, g1, i1, m2, O, T, U, X, a0, b0, c0, i0, j0, m0, n0, o0, p0, q0, s0⟩ := at_T79 S1.out l t0 x0
     cases m2
     (try replace O := zX HB O)
     (try replace T := zX HB T)
     (try replace U := zX HB U)
     (try replace X := zX HB X)
     (try replace a0 := zX HB a0)
     (try replace b0 := zX HB b0)
     (try replace c0 := zX HB c0)
     have G0 := zK j0
     have I0 := zK i0
     clear j0 i0
     have J0 := zK n0
     have L0 := zK m0
     clear n0 m0
     have M0 := zK p0
     have N0 := zK o0
     clear p0 o0
     have O0 := zK s0
     have R0 := zK q0
     clear s0 q0
     replace t0 := eq_true t0
     replace x0 := eq_true x0
     go_wp2_with (first | ((with_reducible refine gc 43 rfl ?_); refine zF 31 Try.func43 #[.agg #[.slice U0 ((rd_T79 a l).f0).length V0, .slice X0 ((rd_T79 a l).f1).length b1, .int .i64 ((rd_T79 a l).f2.f0), .int .i64 ((rd_T79 a l).f2.f1), .slice d1 ((rd_T79 a l).f2.f2).length e1, .bool ((rd_T79 a l).f3), .slice g1 ((rd_T79 a l).f4).length i1], .int .i64 I] rfl zL ?_; refine (spec_l12Touches.calls k1 _ _ ((rd_T79 a l).f0) _ _ ((rd_T79 a l).f1) ((rd_T79 a l).f2.f0) ((rd_T79 a l).f2.f1) _ _ ((rd_T79 a l).f2.f2) ((rd_T79 a l).f3) _ _ ((rd_T79 a l).f4) I true _ (zS G0) I0.out (zS J0) L0.out (zS M0) N0.out (zS O0) R0.out j5.out).mono ?_; rintro e w21 ⟨rfl, hb⟩; refine ⟨_, rfl, ?_⟩; have B0 := z7 q hb; have C0 := z7 u hb; have D0 := z7 x hb; have E0 := z8 hb; revert B0 C0 D0 E0; clear q u x HB; intro q u x HB; have a0t := M.out; have a0u := L.out; obtain ⟨V2, X2, a3, b3, d3, e3, g3, i3⟩ := zc4 x))
     go_roundg k1
     case measure => have := l1.out; omega
     case rel => exact ⟨(l), (wrap64 (l + 1)), (l), zR, zR, H', ⟨by have := l1.out; omega⟩, ⟨zV q⟩, ⟨zV u⟩, ⟨zW x⟩, ⟨zB⟩⟩
   rw [if_neg R1] at H
   have g4 := z2 R1
   clear R1
   have H' := zK H
   clear H
   have a0x := B.out
   have a0y := D.out
   have a0z := z.out
   have a1a := A.out
   obtain ⟨j3, l3, m3, n3, o3, p3, q3, s3, t3, x3⟩ := zc5 q
   have t0 : 0 ≤ (l : Int) := z3
   have x0 : l < (a.length : Int) := z3
   obtain ⟨N4, U0, V0, X0, b1, d1, e1, g1, i1, m2, O, T, U, X, a0, b0, c0, i0, j0, m0, n0, o0, p0, q0, s0⟩ := at_T79 S1.out l t0 x0
   cases m2
   (try replace O := zX HB O)
   (try replace T := zX HB T)
   (try replace U := zX HB U)
   (try replace X := zX HB X)
   (try replace a0 := zX HB a0)
   (try replace b0 := zX HB b0)
   (try replace c0 := zX HB c0)
   have G0 := zK j0
   have I0 := zK i0
   clear j0 i0
   have J0 := zK n0
   have L0 := zK m0
   clear n0 m0
   have M0 := zK p0
   have N0 := zK o0
   clear p0 o0
   have O0 := zK s0
   have R0 := zK q0
   clear s0 q0
   replace t0 := eq_true t0
   replace x0 := eq_true x0
   go_wp2_with (first | ((with_reducible refine gc 43 rfl ?_); refine zF 31 Try.func43 #[.agg #[.slice U0 ((rd_T79 a l).f0).length V0, .slice X0 ((rd_T79 a l).f1).length b1, .int .i64 ((rd_T79 a l).f2.f0), .int .i64 ((rd_T79 a l).f2.f1), .slice d1 ((rd_T79 a l).f2.f2).length e1, .bool ((rd_T79 a l).f3), .slice g1 ((rd_T79 a l).f4).length i1], .int .i64 I] rfl zL ?_; refine (spec_l12Touches.calls k1 _ _ ((rd_T79 a l).f0) _ _ ((rd_T79 a l).f1) ((rd_T79 a l).f2.f0) ((rd_T79 a l).f2.f1) _ _ ((rd_T79 a l).f2.f2) ((rd_T79 a l).f3) _ _ ((rd_T79 a l).f4) I true _ (zS G0) I0.out (zS J0) L0.out (zS M0) N0.out (zS O0) R0.out j5.out).mono ?_; rintro e w27 ⟨rfl, hb⟩; refine ⟨_, rfl, ?_⟩; have B0 := z7 q hb; have C0 := z7 u hb; have D0 := z7 x hb; have E0 := z8 hb; revert B0 C0 D0 E0; clear q u x HB; intro q u x HB; have a1b := M.out; have a1c := L.out; obtain ⟨y3, A3, B3, C3, D3, E3, F3, G3⟩ := zc4 x))
   go_roundg k1
   case measure => have := l1.out; omega
   case rel => exact ⟨(A0), (wrap64 (l + 1)), (l), zR, zR, H', ⟨by have := l1.out; omega⟩, ⟨zV q⟩, ⟨zV u⟩, ⟨zW x⟩, ⟨zB⟩⟩
 rw [if_neg O1] at H
 have e4 := z2 O1
 clear O1
 replace H := z6 H
 obtain ⟨i4, l5, H⟩ := H
 have x9 := zK l5
 clear l5
 replace H := z6 H
 obtain ⟨N1, m5, H⟩ := H
 have y9 := zK m5
 clear m5
 have q4 := zK H
 clear H
 have a1d := B.out
 have a1e := D.out
 have a1f := z.out
 have a1g := A.out
 obtain ⟨I3, J3, L3, M3, N3, O3, R3, S3, T3, U3⟩ := zc5 q
 go_upto_region 12 with (first | ((with_reducible refine gc 39 rfl ?_); refine zF 40 Try.func39 #[.slice S0 d0.length T0, .int .i64 I] rfl zL ?_; refine (spec_l7Has.calls k1 _ _ d0 I i4 _ (zS J4) L4.out x9.out).mono ?_; rintro e w' ⟨rfl, ⟨nd, rfl⟩⟩; refine ⟨_, rfl, ?_⟩) | ((with_reducible refine gc 44 rfl ?_); refine zF 43 Try.func44 #[.agg #[.slice (some T1) y.length m1, .slice n1 e0.length o1, .slice s1 g0.length t1, .slice x1 a.length y1, .slice S0 d0.length T0], .int .i64 I] rfl zL ?_; refine (spec_l12Given.calls k1 _ _ y _ _ e0 _ _ g0 _ _ a _ _ d0 I N1 _ (zS I4) o5.out (zS p5) q5.out (zS s5) t5.out (zS S1) x5.out (zS J4) L4.out y9.out).mono ?_; rintro e w40 ⟨rfl, hb⟩; refine ⟨_, rfl, ?_⟩; have B0 := z7 q hb; have C0 := z7 u hb; have D0 := z7 x hb; have E0 := z8 hb; revert B0 C0 D0 E0; clear q u x HB; intro q u x HB))
 (try simp only [Act.put, zq1, zq2, zq3])
 go_cut [49] (fun v49 wc => ∃ (kq : Nat) (A1 : Bool), v49 = .bool A1 ∧ Aside0 (spec_l12Life.j1 kq A0 i4 N1 A1 y e0 g0 a d0 I (rd y I) 0 E = some (r1, r2, r3, r4, r5)) ∧ Aside0 (kq ≤ k1) ∧ Aside0 (wc.heap[b4]? = some (.cells #[(.slice (some T1) y.length m1), (.slice n1 e0.length o1), (.slice s1 g0.length t1), (.slice x1 a.length y1), (.slice S0 d0.length T0)] 34 (0, 0))) ∧ Aside0 (wc.heap[y0]? = some (.cells #[.int .i64 0, .int .i64 0, .int .i64 0, .int .i64 0] 52 (0, 0))) ∧ Aside0 (wc.heap[d4]? = some (.cells #[.int .i64 I, .int .i64 (rd y I), .int .i64 0, .int .i64 E] 52 (0, 0))) ∧ Aside0 (Below w.heap.size w wc))
 case first =>
  have H := q4.out
  clear q4
  by_cases V3 : N1 = true
  · subst V3
    rw [if_pos rfl] at H
    have H' := zK H
    clear H
    go_wp2
    go_meet
    case rel => exact ⟨_, (false), zR, H', ⟨by have := l1.out; first | omega | exact Nat.le_refl _⟩, ⟨zM q⟩, ⟨zM u⟩, ⟨zM x⟩, ⟨zB⟩⟩
  replace V3 := Bool.eq_false_iff.mpr V3
  subst V3
  rw [if_neg (show ¬ (false = true) by decide)] at H
  have H' := zK H
  clear H
  go_wp2
  go_meet
  case rel => exact ⟨_, (decide (A0 > 0)), zR, H', ⟨by have := l1.out; first | omega | exact Nat.le_refl _⟩, ⟨zM q⟩, ⟨zM u⟩, ⟨zM x⟩, ⟨zB⟩⟩
 case rest =>
  clear q4
  try clear c1
  try clear p1
  try clear q1
  try clear E5
  try clear c2
  try clear p2
  try clear q2
  try clear B9
  try clear c3
  try clear n4
  try clear c4
  try clear p4
  try clear p6
  try clear c7
  try clear F5
  try clear G5
  try clear O1
  try clear e4
  try clear n2
  try clear M4
  try clear o2
  try clear R1
  try clear g4
  try clear D9
  try clear E9
  try clear I5
  try clear J5
  try clear R5
  try clear F9
  try clear L5
  try clear M5
  try clear S5
  try clear G9
  try clear I9
  try clear J9
  try clear L9
  try clear M9
  try clear N9
  try clear O9
  try clear R9
  try clear S9
  try clear T9
  try clear V3
  try clear D1 E1 F1 G1 I1 J1 L1 M1
  try clear G2 I2 J2 L2 M2 N2 O2 R2 T2 U2
  try clear V2 X2 a3 b3 d3 e3 g3 i3
  try clear j3 l3 m3 n3 o3 p3 q3 s3 t3 x3
  try clear y3 A3 B3 C3 D3 E3 F3 G3
  try clear s2 t2 x2 y2 A2 B2 C2 D2 E2 F2
  try clear I3 J3 L3 M3 N3 O3 R3 S3 T3 U3
  try clear U1 V1 X1 a2 b2 d2 e2 g2 i2 l2
  try clear F0
  try clear O
  try clear T
  try clear U
  try clear X
  try clear a0
  try clear b0
  try clear c0
  try clear p1
  try clear B1
  try clear p2
  try clear t0
  try clear q1
  try clear C1
  try clear x0
  obtain ⟨kq, A1, rfl, HA, n5, q, u, x, HB⟩ := hcut
  cases kq with
  | zero => exact absurd HA.out (by simp [spec_l12Life.j1])
  | succ T5 =>
   have H := HA.out
   clear HA
   simp only [spec_l12Life.j1] at H
   have s4 := zK H
   clear H
   go_upto_if 49 with (fail)
   go_cut [] (fun wc => ∃ (kq : Nat) (J : Int), Aside0 (spec_l12Life.j2 kq A0 i4 N1 y e0 g0 a d0 I (rd y I) J E = some (r1, r2, r3, r4, r5)) ∧ Aside0 (kq ≤ T5) ∧ Aside0 (wc.heap[b4]? = some (.cells #[(.slice (some T1) y.length m1), (.slice n1 e0.length o1), (.slice s1 g0.length t1), (.slice x1 a.length y1), (.slice S0 d0.length T0)] 34 (0, 0))) ∧ Aside0 (wc.heap[y0]? = some (.cells #[.int .i64 0, .int .i64 0, .int .i64 0, .int .i64 0] 52 (0, 0))) ∧ Aside0 (wc.heap[d4]? = some (.cells #[.int .i64 I, .int .i64 (rd y I), .int .i64 J, .int .i64 E] 52 (0, 0))) ∧ Aside0 (Below w.heap.size w wc))
   case first =>
    have H := s4.out
    clear s4
    by_cases j4 : A1 = true
    rotate_left
    · replace j4 := Bool.eq_false_iff.mpr j4
      subst j4
      rw [if_neg (show ¬ (false = true) by decide)] at H
      have H' := zK H
      clear H
      go_wp2
      go_meet
      case rel => exact ⟨_, (0), H', ⟨by have := l1.out; have := n5.out; first | omega | exact Nat.le_refl _⟩, ⟨zM q⟩, ⟨zM u⟩, ⟨zM x⟩, ⟨zB⟩⟩
    subst j4
    rw [if_pos rfl] at H
    have H' := zK H
    clear H
    have a1j := A.out
    have a1l := z.out
    have a1m := M.out
    have a1n := L.out
    obtain ⟨T4, U4, V4, X4, a5, b5, c5, d5⟩ := zc4 x
    go_wp2
    go_meet
    case rel => exact ⟨_, (A0), H', ⟨by have := l1.out; have := n5.out; first | omega | exact Nat.le_refl _⟩, ⟨zV q⟩, ⟨zV u⟩, ⟨zW x⟩, ⟨zB⟩⟩
   case rest =>
    clear s4
    try clear c1
    try clear p1
    try clear q1
    try clear E5
    try clear c2
    try clear p2
    try clear q2
    try clear B9
    try clear c3
    try clear n4
    try clear c4
    try clear p4
    try clear p6
    try clear c7
    try clear F5
    try clear G5
    try clear O1
    try clear e4
    try clear n2
    try clear M4
    try clear o2
    try clear R1
    try clear g4
    try clear D9
    try clear E9
    try clear I5
    try clear J5
    try clear R5
    try clear F9
    try clear L5
    try clear M5
    try clear S5
    try clear G9
    try clear I9
    try clear J9
    try clear L9
    try clear M9
    try clear N9
    try clear O9
    try clear R9
    try clear S9
    try clear T9
    try clear V3
    try clear j4
    try clear c44
    try clear c45
    try clear D1 E1 F1 G1 I1 J1 L1 M1
    try clear G2 I2 J2 L2 M2 N2 O2 R2 T2 U2
    try clear V2 X2 a3 b3 d3 e3 g3 i3
    try clear j3 l3 m3 n3 o3 p3 q3 s3 t3 x3
    try clear y3 A3 B3 C3 D3 E3 F3 G3
    try clear s2 t2 x2 y2 A2 B2 C2 D2 E2 F2
    try clear I3 J3 L3 M3 N3 O3 R3 S3 T3 U3
    try clear T4 U4 V4 X4 a5 b5 c5 d5
    try clear U1 V1 X1 a2 b2 d2 e2 g2 i2 l2
    try clear F0
    try clear O
    try clear T
    try clear U
    try clear X
    try clear a0
    try clear b0
    try clear c0
    try clear p1
    try clear I5
    try clear B1
    try clear p2
    try clear L5
    try clear t0
    try clear p6
    try clear q1
    try clear J5
    try clear C1
    try clear q2
    try clear M5
    try clear x0
    obtain ⟨kq, J, HA, a3p, q, u, x, HB⟩ := hcut
    cases kq with
    | zero => exact absurd HA.out (by simp [spec_l12Life.j2])
    | succ a3q =>
     have H := HA.out
     clear HA
     simp only [spec_l12Life.j2] at H
     by_cases O4 : i4 = true
     rotate_left
     · replace O4 := Bool.eq_false_iff.mpr O4
       subst O4
       rw [if_neg (show ¬ (false = true) by decide)] at H
       by_cases X3 : (rd y I) > 0
       rotate_left
       · rw [if_neg X3] at H
         have C5 := z2 X3
         clear X3
         simp only [Option.some.injEq, Prod.mk.injEq] at H
         obtain ⟨rfl, rfl, rfl, rfl, rfl⟩ := H
         have a1o := A.out
         have a1p := z.out
         have a1q := M.out
         have a1s := L.out
         obtain ⟨U5, V5, X5, a6, b6, c6, d6, e6⟩ := zc4 x
         have a1t := D.out
         have a1u := B.out
         obtain ⟨f6, g6, i6, j6, l6, m6, n6, o6⟩ := zc4 u
         go_wp2
         refine bodyPost_ret (results_ct rfl _ _ y0 52 #[.int .i64 I, .int .i64 (rd y I), .int .i64 J, .int .i64 E] (0, 0) _ rfl (zW u) Try.underlying52 rfl (by kernel_rfl)) rfl ?_
         exact ⟨zE, zB⟩
       rw [if_pos X3] at H
       have C5 := z1 X3
       clear X3
       by_cases R4 : N1 = true
       · subst R4
         rw [if_pos rfl] at H
         simp only [Option.some.injEq, Prod.mk.injEq] at H
         obtain ⟨rfl, rfl, rfl, rfl, rfl⟩ := H
         have a1x := A.out
         have a1y := z.out
         have a1z := M.out
         have a2a := L.out
         obtain ⟨q6, s6, t6, x6, y6, A6, B6, C6⟩ := zc4 x
         have a2b := D.out
         have a2c := B.out
         obtain ⟨D6, E6, F6, G6, I6, J6, L6, M6⟩ := zc4 u
         go_wp2
         refine bodyPost_ret (results_ct rfl _ _ y0 52 #[.int .i64 I, .int .i64 (rd y I), .int .i64 J, .int .i64 E] (0, 0) _ rfl (zW u) Try.underlying52 rfl (by kernel_rfl)) rfl ?_
         exact ⟨zE, zB⟩
       replace R4 := Bool.eq_false_iff.mpr R4
       subst R4
       rw [if_neg (show ¬ (false = true) by decide)] at H
       simp only [Option.some.injEq, Prod.mk.injEq] at H
       obtain ⟨rfl, rfl, rfl, rfl, rfl⟩ := H
       have a2d := A.out
       have a2e := z.out
       have a2f := M.out
       have a2g := L.out
       obtain ⟨N6, O6, R6, S6, T6, U6, V6, X6⟩ := zc4 x
       have a2j := D.out
       have a2l := B.out
       obtain ⟨a7, b7, d7, e7, f7, g7, i7, j7⟩ := zc4 u
       go_wp2
       refine bodyPost_ret (results_ct rfl _ _ y0 52 #[.int .i64 I, .int .i64 (rd y I), .int .i64 J, .int .i64 E] (0, 0) _ rfl (zW u) Try.underlying52 rfl (by kernel_rfl)) rfl ?_
       exact ⟨zE, zB⟩
     subst O4
     rw [if_pos rfl] at H
     by_cases a4 : (rd y I) > 0
     rotate_left
     · rw [if_neg a4] at H
       have D5 := z2 a4
       clear a4
       simp only [Option.some.injEq, Prod.mk.injEq] at H
       obtain ⟨rfl, rfl, rfl, rfl, rfl⟩ := H
       have a2m := B.out
       have a2n := D.out
       have a2o := z.out
       have a2p := A.out
       obtain ⟨l7, m7, n7, o7, p7, q7, s7, t7, x7, y7⟩ := zc5 q
       have a2q := M.out
       have a2s := L.out
       obtain ⟨A7, B7, C7, D7, E7, F7, G7, I7⟩ := zc4 x
       obtain ⟨J7, L7, M7, N7, O7, R7, S7, T7⟩ := zc4 u
       go_wp2
       refine bodyPost_ret (results_ct rfl _ _ y0 52 #[.int .i64 I, .int .i64 (rd y I), .int .i64 J, .int .i64 (a.length : Int)] (0, 0) _ rfl (zW u) Try.underlying52 rfl (by kernel_rfl)) rfl ?_
       exact ⟨zE, zB⟩
     rw [if_pos a4] at H
     have D5 := z1 a4
     clear a4
     by_cases S4 : N1 = true
     · subst S4
       rw [if_pos rfl] at H
       simp only [Option.some.injEq, Prod.mk.injEq] at H
       obtain ⟨rfl, rfl, rfl, rfl, rfl⟩ := H
       have a2t := B.out
       have a2u := D.out
       have a2x := z.out
       have a2y := A.out
       obtain ⟨U7, V7, X7, a8, b8, c8, d8, e8, f8, g8⟩ := zc5 q
       have a2z := M.out
       have a3a := L.out
       obtain ⟨i8, j8, l8, m8, n8, o8, p8, q8⟩ := zc4 x
       obtain ⟨s8, t8, x8, y8, A8, B8, C8, D8⟩ := zc4 u
       go_wp2
       refine bodyPost_ret (results_ct rfl _ _ y0 52 #[.int .i64 I, .int .i64 (rd y I), .int .i64 J, .int .i64 (a.length : Int)] (0, 0) _ rfl (zW u) Try.underlying52 rfl (by kernel_rfl)) rfl ?_
       exact ⟨zE, zB⟩
     replace S4 := Bool.eq_false_iff.mpr S4
     subst S4
     rw [if_neg (show ¬ (false = true) by decide)] at H
     simp only [Option.some.injEq, Prod.mk.injEq] at H
     obtain ⟨rfl, rfl, rfl, rfl, rfl⟩ := H
     have a3b := B.out
     have a3c := D.out
     have a3d := z.out
     have a3e := A.out
     obtain ⟨E8, F8, G8, I8, J8, L8, M8, N8, O8, R8⟩ := zc5 q
     have a3f := M.out
     have a3g := L.out
     obtain ⟨S8, T8, U8, V8, X8, a9, b9, c9⟩ := zc4 x
     obtain ⟨d9, e9, f9, g9, i9, j9, l9, m9⟩ := zc4 u
     go_wp2
     refine bodyPost_ret (results_ct rfl _ _ y0 52 #[.int .i64 I, .int .i64 (rd y I), .int .i64 J, .int .i64 (a.length : Int)] (0, 0) _ rfl (zW u) Try.underlying52 rfl (by kernel_rfl)) rfl ?_
     exact ⟨zE, zB⟩
end Go.Proofs.Ytmcboiffbcnalaa.PFnExactPlanOk
