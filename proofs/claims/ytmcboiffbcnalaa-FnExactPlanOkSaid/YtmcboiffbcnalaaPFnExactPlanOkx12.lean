-- Printed out of the translation by this session's own turned copy of a printer; Lean checks it.
import Derived.Test.YtmcboiffbcnalaaPFnExactPlanOkx0
import Derived.Test.YtmcboiffbcnalaaPFnExactPlanOkx6
import Derived.Test.YtmcboiffbcnalaaPFnExactPlanOkx8
import Derived.Test.YtmcboiffbcnalaaPFnExactPlanOkx9
import Derived.Test.YtmcboiffbcnalaaPFnExactPlanOkx11
namespace Go.Proofs.Ytmcboiffbcnalaa.PFnExactPlanOk
open Go.RowKit Go.Proofs.YtmcboiffbcnalaaW.PrintWords Go.Proofs.YtmcboiffbcnalaaW.PrintLast Go.Proofs.YtmcboiffbcnalaaW.PrintMore
attribute [local go_sem] max2_int min2_int max_two min_two max_three min_three max_four min_four
set_option linter.unusedVariables false
set_option linter.unusedSimpArgs false
set_option maxHeartbeats 8000000
set_option maxRecDepth 100000
mutual
def spec_PlanOk.j0 : Nat → Bool → List Int → List Int → List (S71) → List (S79) → List Int → List Int → Int → Option (Bool)
 | 0, _, _, _, _, _, _, _, _ => none
 | k + 1, B, a, l, q, u, x, y, z => if B = true then (some false) else ((spec_Lives.f k a l q u x).bind fun A => (spec_PlanOk.l0 k A (([] : List Int)) 0 a l q u x y z))
def spec_PlanOk.l0 : Nat → List (S52) → List Int → Int → List Int → List Int → List (S71) → List (S79) → List Int → List Int → Int → Option (Bool)
 | 0, _, _, _, _, _, _, _, _, _, _ => none
 | k + 1, A, D, B, q, u, x, y, z, a, l => if B < (A.length : Int) then (if 0 ≤ B then (if 0 ≤ ((rd_T52 A B).f0) then (if ((rd_T52 A B).f0) < (a.length : Int) then (if (rd a ((rd_T52 A B).f0)) < 0 then (spec_PlanOk.j2 k A D B (rd a ((rd_T52 A B).f0)) true q u x y z a l) else (if (rd a ((rd_T52 A B).f0)) > 1000000 then (spec_PlanOk.j2 k A D B (rd a ((rd_T52 A B).f0)) true q u x y z a l) else (spec_PlanOk.j2 k A D B (rd a ((rd_T52 A B).f0)) (decide ((wrap64 ((rd a ((rd_T52 A B).f0)) + ((rd_T52 A B).f1))) > l)) q u x y z a l))) else (none)) else (none)) else (none)) else (spec_PlanOk.l1 k A D 0 q u x y z a l)
def spec_PlanOk.j2 : Nat → List (S52) → List Int → Int → Int → Bool → List Int → List Int → List (S71) → List (S79) → List Int → List Int → Int → Option (Bool)
 | 0, _, _, _, _, _, _, _, _, _, _, _, _ => none
 | k + 1, D, A, E, I, B, a, l, q, u, x, y, z => if B = true then (some false) else (if A.length < 17592186044416 then (spec_PlanOk.l0 k D (A ++ [I]) (wrap64 (E + 1)) a l q u x y z) else (none))
def spec_PlanOk.l1 : Nat → List (S52) → List Int → Int → List Int → List Int → List (S71) → List (S79) → List Int → List Int → Int → Option (Bool)
 | 0, _, _, _, _, _, _, _, _, _, _ => none
 | k + 1, D, E, A, l, q, u, x, y, a, z => if A < (a.length : Int) then ((spec_l12Life.f k l q u x y A).bind fun B => (if B.2.2.2.2 = true then (spec_PlanOk.l1 k D E (wrap64 (A + 1)) l q u x y a z) else (if 0 ≤ A then (if (rd a A) = (-1) then (spec_PlanOk.l1 k D E (wrap64 (A + 1)) l q u x y a z) else (some false)) else (none)))) else ((spec_PackOk.f k D E).bind fun I => (some I))
end
def spec_PlanOk.f (k : Nat) (a : List Int) (q : List Int) (u : List (S71)) (x : List (S79)) (y : List Int) (z : List Int) (l : Int) : Option (Bool) := (spec_NestOk.f k a q u x y).bind fun A => (if A = true then (if (z.length : Int) = (a.length : Int) then (if l < 0 then (spec_PlanOk.j0 k true a q u x y z l) else (spec_PlanOk.j0 k (decide (l > 1000000)) a q u x y z l)) else (spec_PlanOk.j0 k true a q u x y z l)) else (spec_PlanOk.j0 k true a q u x y z l))
theorem spec_PlanOk.calls (k) (m2) (n2) (A : List Int) (o2) (s2) (L : List Int) (t2) (x2) (M : List (S71)) (y2) (A2) (O : List (S79)) (B2) (C2) (T : List Int) (J2) (D2) (J : List Int) (B0) (r : Bool) (w) (l8 : Kd.C (Kd.int .i64) w m2 A.length A) (m8 : A.length ≤ n2) (n8 : Kd.C (Kd.int .i64) w o2 L.length L) (o8 : L.length ≤ s2) (p8 : Kd.C k71 w t2 M.length M) (q8 : M.length ≤ x2) (s8 : Kd.C k79 w y2 O.length O) (t8 : O.length ≤ A2) (x8 : Kd.C (Kd.int .i64) w B2 T.length T) (y8 : T.length ≤ C2) (A8 : Kd.C (Kd.int .i64) w J2 J.length J) (B8 : J.length ≤ D2) (h : spec_PlanOk.f k A L M O T J B0 = some r) :
 Calls Try.prog 6 #[.agg #[.slice m2 A.length n2, .slice o2 L.length s2, .slice t2 M.length x2, .slice y2 O.length A2, .slice B2 T.length C2, .slice J2 J.length D2, .int .i64 B0]] w fun e w' => e = .returned (.bool r) ∧ Below w.heap.size w w' := by
 have a3e := Try.underlying36
 have a3f := Try.underlying34
 have a3g := Try.underlying52
 have m0 := zK l8
 have n0 := zK m8
 clear l8 m8
 have o0 := zK n8
 have p0 := zK o8
 clear n8 o8
 have q0 := zK p8
 have s0 := zK q8
 clear p8 q8
 have t0 := zK s8
 have x0 := zK t8
 clear s8 t8
 have y0 := zK x8
 have A0 := zK y8
 clear x8 y8
 have E2 := zK A8
 have a3c := zK B8
 clear A8 B8
 have HB := zK (Below.refl w.heap.size w)
 have H : ((spec_NestOk.f k A L M O T).bind fun g8 => (if g8 = true then (if (J.length : Int) = (A.length : Int) then (if B0 < 0 then (spec_PlanOk.j0 k true A L M O T J B0) else (spec_PlanOk.j0 k (decide (B0 > 1000000)) A L M O T J B0)) else (spec_PlanOk.j0 k true A L M O T J B0)) else (spec_PlanOk.j0 k true A L M O T J B0))) = some r := h
 clear h
 have X8 := zK H
 clear H
 go_enter Try.func6, Try.ntmps6
 go_upto_region 1 with (first | ((with_reducible refine gd 1 rfl ?_); (try (refine gate_guard (by rfl) ?_; dsimp only)); refine zJ 1 #[.slice m2 A.length n2, .slice o2 L.length s2, .slice t2 M.length x2, .slice y2 O.length A2, .slice B2 T.length C2, .slice J2 J.length D2, .int .i64 B0] 36 ?_; intro L2 hg w3 hbox hb; have y := z8 hb; have z := zK (hbox); have U := z9 hg; have X := z9 hg; revert y z U X; clear HB; intro HB a C8 D8; clear hb hbox hg))
 repeat (go_quiet (first | ((with_reducible refine gd 1 rfl ?_); (try (refine gate_guard (by rfl) ?_; dsimp only)); refine zJ 1 #[.slice m2 A.length n2, .slice o2 L.length s2, .slice t2 M.length x2, .slice y2 O.length A2, .slice B2 T.length C2, .slice J2 J.length D2, .int .i64 B0] 36 ?_; intro L2 hg w3 hbox hb; have y := z8 hb; have z := zK (hbox); have U := z9 hg; have X := z9 hg; revert y z U X; clear HB; intro HB a C8 D8; clear hb hbox hg)); go_upto_region 1 with (first | ((with_reducible refine gd 1 rfl ?_); (try (refine gate_guard (by rfl) ?_; dsimp only)); refine zJ 1 #[.slice m2 A.length n2, .slice o2 L.length s2, .slice t2 M.length x2, .slice y2 O.length A2, .slice B2 T.length C2, .slice J2 J.length D2, .int .i64 B0] 36 ?_; intro L2 hg w3 hbox hb; have y := z8 hb; have z := zK (hbox); have U := z9 hg; have X := z9 hg; revert y z U X; clear HB; intro HB a C8 D8; clear hb hbox hg)))
 (try simp only [Act.put, zq1, zq2, zq3])
 go_cut [33] (fun v33 wc => ∃ (kq : Nat) (X4 : Bool), v33 = .bool X4 ∧ Aside0 (spec_PlanOk.j0 kq X4 A L M O T J B0 = some r) ∧ Aside0 (kq ≤ k) ∧ Aside0 (wc.heap[L2]? = some (.cells #[(.slice m2 A.length n2), (.slice o2 L.length s2), (.slice t2 M.length x2), (.slice y2 O.length A2), (.slice B2 T.length C2), (.slice J2 J.length D2), .int .i64 B0] 36 (0, 0))) ∧ Aside0 (Below w.heap.size w wc))
 case first =>
  have H := X8.out
  clear X8
  replace H := z6 H
  obtain ⟨g8, I2, H⟩ := H
  have A4 := zK I2
  clear I2
  by_cases c5 : g8 = true
  rotate_left
  · replace c5 := Bool.eq_false_iff.mpr c5
    subst c5
    rw [if_neg (show ¬ (false = true) by decide)] at H
    have H' := zK H
    clear H
    obtain ⟨M2, N2, O2, R2, T2, U2, V2, X2, a3, b3, d3, e3, f3, g3⟩ := zc7 a
    go_wp2_with (first | (go_at_call 20; (with_reducible refine (spec_NestOk.calls k _ _ A _ _ L _ _ M _ _ O _ _ T false _ ?side1 ?side2 ?side3 ?side4 ?side5 ?side6 ?side7 ?side8 ?side9 ?side10 A4.out).mono ?_); (case side1 => exact zS m0); (case side2 => exact n0.out); (case side3 => exact zS o0); (case side4 => exact p0.out); (case side5 => exact zS q0); (case side6 => exact s0.out); (case side7 => exact zS t0); (case side8 => exact x0.out); (case side9 => exact zS y0); (case side10 => exact A0.out); rintro e s9 ⟨rfl, hb⟩; have y := z7 a hb; have z := z8 hb; revert y z; clear a HB; intro a HB))
    repeat (go_quiet (first | (go_at_call 20; (with_reducible refine (spec_NestOk.calls k _ _ A _ _ L _ _ M _ _ O _ _ T false _ ?side1 ?side2 ?side3 ?side4 ?side5 ?side6 ?side7 ?side8 ?side9 ?side10 A4.out).mono ?_); (case side1 => exact zS m0); (case side2 => exact n0.out); (case side3 => exact zS o0); (case side4 => exact p0.out); (case side5 => exact zS q0); (case side6 => exact s0.out); (case side7 => exact zS t0); (case side8 => exact x0.out); (case side9 => exact zS y0); (case side10 => exact A0.out); rintro e s9 ⟨rfl, hb⟩; have y := z7 a hb; have z := z8 hb; revert y z; clear a HB; intro a HB)); try go_wp2_with (first | (go_at_call 20; (with_reducible refine (spec_NestOk.calls k _ _ A _ _ L _ _ M _ _ O _ _ T false _ ?side1 ?side2 ?side3 ?side4 ?side5 ?side6 ?side7 ?side8 ?side9 ?side10 A4.out).mono ?_); (case side1 => exact zS m0); (case side2 => exact n0.out); (case side3 => exact zS o0); (case side4 => exact p0.out); (case side5 => exact zS q0); (case side6 => exact s0.out); (case side7 => exact zS t0); (case side8 => exact x0.out); (case side9 => exact zS y0); (case side10 => exact A0.out); rintro e s9 ⟨rfl, hb⟩; have y := z7 a hb; have z := z8 hb; revert y z; clear a HB; intro a HB)))
    go_meet
    case rel => exact ⟨_, (true), zR, H', ⟨by first | omega | exact Nat.le_refl _⟩, ⟨zM a⟩, ⟨zB⟩⟩
  subst c5
  rw [if_pos rfl] at H
  by_cases c6 : (J.length : Int) = (A.length : Int)
  rotate_left
  · rw [if_neg c6] at H
    have F2 := beq_eq_false_iff_ne.mpr c6
    have a5 := bne_iff_ne.mpr c6
    have b5 : (J.length == A.length) = false := by first | simpa using c6 | (simp at c6 ⊢; omega)
    (first | rw [F2] | (simp only [i64_w, i32_w]; rw [F2]) | skip)
    have H' := zK H
    clear H
    obtain ⟨i3, j3, l3, m3, n3, o3, p3, q3, s3, t3, x3, y3, A3, B3⟩ := zc7 a
    go_wp2_with (first | (go_at_call 20; (with_reducible refine (spec_NestOk.calls k _ _ A _ _ L _ _ M _ _ O _ _ T true _ ?side1 ?side2 ?side3 ?side4 ?side5 ?side6 ?side7 ?side8 ?side9 ?side10 A4.out).mono ?_); (case side1 => exact zS m0); (case side2 => exact n0.out); (case side3 => exact zS o0); (case side4 => exact p0.out); (case side5 => exact zS q0); (case side6 => exact s0.out); (case side7 => exact zS t0); (case side8 => exact x0.out); (case side9 => exact zS y0); (case side10 => exact A0.out); rintro e t9 ⟨rfl, hb⟩; have y := z7 a hb; have z := z8 hb; revert y z; clear a HB; intro a HB; obtain ⟨V0, X0, a1, b1, d1, e1, g1, i1, j1, m1, n1, o1, p1, q1⟩ := zc7 a))
    repeat (go_quiet (first | (go_at_call 20; (with_reducible refine (spec_NestOk.calls k _ _ A _ _ L _ _ M _ _ O _ _ T true _ ?side1 ?side2 ?side3 ?side4 ?side5 ?side6 ?side7 ?side8 ?side9 ?side10 A4.out).mono ?_); (case side1 => exact zS m0); (case side2 => exact n0.out); (case side3 => exact zS o0); (case side4 => exact p0.out); (case side5 => exact zS q0); (case side6 => exact s0.out); (case side7 => exact zS t0); (case side8 => exact x0.out); (case side9 => exact zS y0); (case side10 => exact A0.out); rintro e t9 ⟨rfl, hb⟩; have y := z7 a hb; have z := z8 hb; revert y z; clear a HB; intro a HB; obtain ⟨V0, X0, a1, b1, d1, e1, g1, i1, j1, m1, n1, o1, p1, q1⟩ := zc7 a)); try go_wp2_with (first | (go_at_call 20; (with_reducible refine (spec_NestOk.calls k _ _ A _ _ L _ _ M _ _ O _ _ T true _ ?side1 ?side2 ?side3 ?side4 ?side5 ?side6 ?side7 ?side8 ?side9 ?side10 A4.out).mono ?_); (case side1 => exact zS m0); (case side2 => exact n0.out); (case side3 => exact zS o0); (case side4 => exact p0.out); (case side5 => exact zS q0); (case side6 => exact s0.out); (case side7 => exact zS t0); (case side8 => exact x0.out); (case side9 => exact zS y0); (case side10 => exact A0.out); rintro e t9 ⟨rfl, hb⟩; have y := z7 a hb; have z := z8 hb; revert y z; clear a HB; intro a HB; obtain ⟨V0, X0, a1, b1, d1, e1, g1, i1, j1, m1, n1, o1, p1, q1⟩ := zc7 a)))
    go_meet
    case rel => exact ⟨_, (true), zR, H', ⟨by first | omega | exact Nat.le_refl _⟩, ⟨zM a⟩, ⟨zB⟩⟩
  rw [if_pos c6] at H
  have F2 := beq_iff_eq.mpr c6
  have a5 := bne_eq_false_iff_eq.mpr c6
  have b5 : (J.length == A.length) = true := by first | simpa using c6 | (simp at c6 ⊢; omega)
  clear c6
  (first | rw [F2] | (simp only [i64_w, i32_w]; rw [F2]) | skip)
  by_cases c7 : B0 < 0
  · rw [if_pos c7] at H
    have d5 := z1 c7
    clear c7
    have H' := zK H
    clear H
    obtain ⟨X3, a4, b4, c4, d4, e4, f4, g4, i4, j4, l4, m4, n4, o4⟩ := zc7 a
    go_wp2_with (first | (go_at_call 20; (with_reducible refine (spec_NestOk.calls k _ _ A _ _ L _ _ M _ _ O _ _ T true _ ?side1 ?side2 ?side3 ?side4 ?side5 ?side6 ?side7 ?side8 ?side9 ?side10 A4.out).mono ?_); (case side1 => exact zS m0); (case side2 => exact n0.out); (case side3 => exact zS o0); (case side4 => exact p0.out); (case side5 => exact zS q0); (case side6 => exact s0.out); (case side7 => exact zS t0); (case side8 => exact x0.out); (case side9 => exact zS y0); (case side10 => exact A0.out); rintro e w9 ⟨rfl, hb⟩; have y := z7 a hb; have z := z8 hb; revert y z; clear a HB; intro a HB; obtain ⟨s1, t1, x1, y1, A1, B1, C1, D1, E1, F1, G1, I1, J1, L1⟩ := zc7 a))
    repeat (go_quiet (first | (go_at_call 20; (with_reducible refine (spec_NestOk.calls k _ _ A _ _ L _ _ M _ _ O _ _ T true _ ?side1 ?side2 ?side3 ?side4 ?side5 ?side6 ?side7 ?side8 ?side9 ?side10 A4.out).mono ?_); (case side1 => exact zS m0); (case side2 => exact n0.out); (case side3 => exact zS o0); (case side4 => exact p0.out); (case side5 => exact zS q0); (case side6 => exact s0.out); (case side7 => exact zS t0); (case side8 => exact x0.out); (case side9 => exact zS y0); (case side10 => exact A0.out); rintro e w9 ⟨rfl, hb⟩; have y := z7 a hb; have z := z8 hb; revert y z; clear a HB; intro a HB; obtain ⟨s1, t1, x1, y1, A1, B1, C1, D1, E1, F1, G1, I1, J1, L1⟩ := zc7 a)); try go_wp2_with (first | (go_at_call 20; (with_reducible refine (spec_NestOk.calls k _ _ A _ _ L _ _ M _ _ O _ _ T true _ ?side1 ?side2 ?side3 ?side4 ?side5 ?side6 ?side7 ?side8 ?side9 ?side10 A4.out).mono ?_); (case side1 => exact zS m0); (case side2 => exact n0.out); (case side3 => exact zS o0); (case side4 => exact p0.out); (case side5 => exact zS q0); (case side6 => exact s0.out); (case side7 => exact zS t0); (case side8 => exact x0.out); (case side9 => exact zS y0); (case side10 => exact A0.out); rintro e w9 ⟨rfl, hb⟩; have y := z7 a hb; have z := z8 hb; revert y z; clear a HB; intro a HB; obtain ⟨s1, t1, x1, y1, A1, B1, C1, D1, E1, F1, G1, I1, J1, L1⟩ := zc7 a)))
    go_meet
    case rel => exact ⟨_, (true), zR, H', ⟨by first | omega | exact Nat.le_refl _⟩, ⟨zM a⟩, ⟨zB⟩⟩
  rw [if_neg c7] at H
  have d5 := z2 c7
  clear c7
  have H' := zK H
  clear H
  obtain ⟨C3, D3, E3, F3, G3, I3, J3, L3, M3, N3, O3, R3, S3, T3⟩ := zc7 a
  go_wp2_with (first | (go_at_call 20; (with_reducible refine (spec_NestOk.calls k _ _ A _ _ L _ _ M _ _ O _ _ T true _ ?side1 ?side2 ?side3 ?side4 ?side5 ?side6 ?side7 ?side8 ?side9 ?side10 A4.out).mono ?_); (case side1 => exact zS m0); (case side2 => exact n0.out); (case side3 => exact zS o0); (case side4 => exact p0.out); (case side5 => exact zS q0); (case side6 => exact s0.out); (case side7 => exact zS t0); (case side8 => exact x0.out); (case side9 => exact zS y0); (case side10 => exact A0.out); rintro e x9 ⟨rfl, hb⟩; have y := z7 a hb; have z := z8 hb; revert y z; clear a HB; intro a HB; obtain ⟨M1, N1, O1, R1, S1, T1, U1, V1, X1, a2, b2, d2, e2, f2⟩ := zc7 a))
  repeat (go_quiet (first | (go_at_call 20; (with_reducible refine (spec_NestOk.calls k _ _ A _ _ L _ _ M _ _ O _ _ T true _ ?side1 ?side2 ?side3 ?side4 ?side5 ?side6 ?side7 ?side8 ?side9 ?side10 A4.out).mono ?_); (case side1 => exact zS m0); (case side2 => exact n0.out); (case side3 => exact zS o0); (case side4 => exact p0.out); (case side5 => exact zS q0); (case side6 => exact s0.out); (case side7 => exact zS t0); (case side8 => exact x0.out); (case side9 => exact zS y0); (case side10 => exact A0.out); rintro e x9 ⟨rfl, hb⟩; have y := z7 a hb; have z := z8 hb; revert y z; clear a HB; intro a HB; obtain ⟨M1, N1, O1, R1, S1, T1, U1, V1, X1, a2, b2, d2, e2, f2⟩ := zc7 a)); try go_wp2_with (first | (go_at_call 20; (with_reducible refine (spec_NestOk.calls k _ _ A _ _ L _ _ M _ _ O _ _ T true _ ?side1 ?side2 ?side3 ?side4 ?side5 ?side6 ?side7 ?side8 ?side9 ?side10 A4.out).mono ?_); (case side1 => exact zS m0); (case side2 => exact n0.out); (case side3 => exact zS o0); (case side4 => exact p0.out); (case side5 => exact zS q0); (case side6 => exact s0.out); (case side7 => exact zS t0); (case side8 => exact x0.out); (case side9 => exact zS y0); (case side10 => exact A0.out); rintro e x9 ⟨rfl, hb⟩; have y := z7 a hb; have z := z8 hb; revert y z; clear a HB; intro a HB; obtain ⟨M1, N1, O1, R1, S1, T1, U1, V1, X1, a2, b2, d2, e2, f2⟩ := zc7 a)))
  go_meet
  case rel => exact ⟨_, (decide (B0 > 1000000)), zR, H', ⟨by first | omega | exact Nat.le_refl _⟩, ⟨zM a⟩, ⟨zB⟩⟩
 case rest =>
  clear X8
  try clear p2
  try clear c5
  try clear c6
  try clear F2
  try clear a5
  try clear b5
  try clear c7
  try clear d5
  try clear s1 t1 x1 y1 A1 B1 C1 D1 E1 F1 G1 I1 J1 L1
  try clear C3 D3 E3 F3 G3 I3 J3 L3 M3 N3 O3 R3 S3 T3
  try clear M1 N1 O1 R1 S1 T1 U1 V1 X1 a2 b2 d2 e2 f2
  try clear i3 j3 l3 m3 n3 o3 p3 q3 s3 t3 x3 y3 A3 B3
  try clear V0 X0 a1 b1 d1 e1 g1 i1 j1 m1 n1 o1 p1 q1
  try clear M2 N2 O2 R2 T2 U2 V2 X2 a3 b3 d3 e3 f3 g3
  try clear X3 a4 b4 c4 d4 e4 f4 g4 i4 j4 l4 m4 n4 o4
  obtain ⟨kq, X4, rfl, HA, p4, a, HB⟩ := hcut
  cases kq with
  | zero => exact absurd HA.out (by simp [spec_PlanOk.j0])
  | succ q5 =>
   have H := HA.out
   clear HA
   simp only [spec_PlanOk.j0] at H
   by_cases e5 : X4 = true
   · subst e5
     rw [if_pos rfl] at H
     obtain rfl := z5 H
     go_wp2
     repeat (go_quiet (fail); try go_wp2)
     go_ret
     exact ⟨zE, zB⟩
   replace e5 := Bool.eq_false_iff.mpr e5
   subst e5
   rw [if_neg (show ¬ (false = true) by decide)] at H
   replace H := z6 H
   obtain ⟨e0, a9, H⟩ := H
   have b9 := zK a9
   clear a9
   obtain ⟨c9, q4⟩ : ∃ y_ : List Int, y_ = (([] : List Int)) := ⟨_, rfl⟩
   replace H : (spec_PlanOk.l0 q5 e0 c9 0 A L M O T J B0) = some r := by first | (rw [q4]; with_reducible exact H) | (have f5 := (Option.bind_some _ _).symm.trans H; rw [q4]; with_reducible exact f5) | (have f5 := (Option.bind_some _ _).symm.trans H; with_reducible exact f5) | with_reducible exact H | (rw [q4]; exact H) | exact H
   have Ny240 := zK q4
   clear q4
   have H' := zK H
   clear H
   obtain ⟨y4, B4, C4, D4, E4, F4, G4, I4, J4, L4, M4, N4, O4, R4⟩ := zc7 a
   go_wp2_with (first | (go_at_call 11; (with_reducible refine (spec_Lives.calls q5 _ _ A _ _ L _ _ M _ _ O _ _ T e0 _ ?side1 ?side2 ?side3 ?side4 ?side5 ?side6 ?side7 ?side8 ?side9 ?side10 b9.out).mono ?_); (case side1 => exact zS m0); (case side2 => exact n0.out); (case side3 => exact zS o0); (case side4 => exact p0.out); (case side5 => exact zS q0); (case side6 => exact s0.out); (case side7 => exact zS t0); (case side8 => exact x0.out); (case side9 => exact zS y0); (case side10 => exact A0.out); rintro e y9 ⟨v238, rfl, b8, hb⟩; have y := zK (Kd.R_lower b8 (zz zB)); have z := z7 a hb; have U := z8 hb; revert y z U; clear a HB; intro N0 a HB) | ((with_reducible refine gd 37 rfl ?_); (try (refine gate_guard (by rfl) ?_; dsimp only)); refine Kd.R_lit (Kd.int .i64) _ 3 ?hg (N := 37) ?hd (xs := ([] : List Int)) (inner := []) (ok := fun _ => True) (okp := fun _ => True) ?hr ?hp (fun _ hk => hk) trivial (Below.refl _ _) (Nat.le_refl _) (by simp) ?_; (case hd => rfl); (case hg => rfl); (case hr => first | (go_simp; done) | (go_simp; rfl)); (case hp => exact (Reps.none _ _)); intro v241 A9 L0 hb hg_ hnew_; clear hg_ hnew_; (first | rw [← Ny240.out] at L0 | (simp only [Int.reduceToNat] at L0; rw [← Ny240.out] at L0)); have y := zK (Kd.R_below (zkR N0) hb); have z := zK (Kd.R_lower L0 (zz zB)); have U := z7 a hb; have X := z8 hb; revert y z U X; clear N0 a HB; intro N0 T7 a HB; clear hb L0))
   repeat (go_quiet (first | (go_at_call 11; (with_reducible refine (spec_Lives.calls q5 _ _ A _ _ L _ _ M _ _ O _ _ T e0 _ ?side1 ?side2 ?side3 ?side4 ?side5 ?side6 ?side7 ?side8 ?side9 ?side10 b9.out).mono ?_); (case side1 => exact zS m0); (case side2 => exact n0.out); (case side3 => exact zS o0); (case side4 => exact p0.out); (case side5 => exact zS q0); (case side6 => exact s0.out); (case side7 => exact zS t0); (case side8 => exact x0.out); (case side9 => exact zS y0); (case side10 => exact A0.out); rintro e y9 ⟨v238, rfl, b8, hb⟩; have y := zK (Kd.R_lower b8 (zz zB)); have z := z7 a hb; have U := z8 hb; revert y z U; clear a HB; intro N0 a HB) | ((with_reducible refine gd 37 rfl ?_); (try (refine gate_guard (by rfl) ?_; dsimp only)); refine Kd.R_lit (Kd.int .i64) _ 3 ?hg (N := 37) ?hd (xs := ([] : List Int)) (inner := []) (ok := fun _ => True) (okp := fun _ => True) ?hr ?hp (fun _ hk => hk) trivial (Below.refl _ _) (Nat.le_refl _) (by simp) ?_; (case hd => rfl); (case hg => rfl); (case hr => first | (go_simp; done) | (go_simp; rfl)); (case hp => exact (Reps.none _ _)); intro v241 A9 L0 hb hg_ hnew_; clear hg_ hnew_; (first | rw [← Ny240.out] at L0 | (simp only [Int.reduceToNat] at L0; rw [← Ny240.out] at L0)); have y := zK (Kd.R_below (zkR N0) hb); have z := zK (Kd.R_lower L0 (zz zB)); have U := z7 a hb; have X := z8 hb; revert y z U X; clear N0 a HB; intro N0 T7 a HB; clear hb L0)); try go_wp2_with (first | (go_at_call 11; (with_reducible refine (spec_Lives.calls q5 _ _ A _ _ L _ _ M _ _ O _ _ T e0 _ ?side1 ?side2 ?side3 ?side4 ?side5 ?side6 ?side7 ?side8 ?side9 ?side10 b9.out).mono ?_); (case side1 => exact zS m0); (case side2 => exact n0.out); (case side3 => exact zS o0); (case side4 => exact p0.out); (case side5 => exact zS q0); (case side6 => exact s0.out); (case side7 => exact zS t0); (case side8 => exact x0.out); (case side9 => exact zS y0); (case side10 => exact A0.out); rintro e y9 ⟨v238, rfl, b8, hb⟩; have y := zK (Kd.R_lower b8 (zz zB)); have z := z7 a hb; have U := z8 hb; revert y z U; clear a HB; intro N0 a HB) | ((with_reducible refine gd 37 rfl ?_); (try (refine gate_guard (by rfl) ?_; dsimp only)); refine Kd.R_lit (Kd.int .i64) _ 3 ?hg (N := 37) ?hd (xs := ([] : List Int)) (inner := []) (ok := fun _ => True) (okp := fun _ => True) ?hr ?hp (fun _ hk => hk) trivial (Below.refl _ _) (Nat.le_refl _) (by simp) ?_; (case hd => rfl); (case hg => rfl); (case hr => first | (go_simp; done) | (go_simp; rfl)); (case hp => exact (Reps.none _ _)); intro v241 A9 L0 hb hg_ hnew_; clear hg_ hnew_; (first | rw [← Ny240.out] at L0 | (simp only [Int.reduceToNat] at L0; rw [← Ny240.out] at L0)); have y := zK (Kd.R_below (zkR N0) hb); have z := zK (Kd.R_lower L0 (zz zB)); have U := z7 a hb; have X := z8 hb; revert y z U X; clear N0 a HB; intro N0 T7 a HB; clear hb L0)))
   go_loopg [4, 5] q5 (fun kq v4 v5 w' => ∃ (M0 : List Int) (i0 : Int), v5 = .int .i64 i0 ∧ Aside0 (spec_PlanOk.l0 kq e0 M0 i0 A L M O T J B0 = some r) ∧ Aside0 (kq ≤ q5) ∧ Aside0 (Kd.R k52 52 w' w.heap.size (fun _ => True) v238 e0) ∧ Aside0 (Kd.R (Kd.int .i64) 3 w' w.heap.size (fun _ => True) v4 M0) ∧ Aside0 (w'.heap[L2]? = some (.cells #[(.slice m2 A.length n2), (.slice o2 L.length s2), (.slice t2 M.length x2), (.slice y2 O.length A2), (.slice B2 T.length C2), (.slice J2 J.length D2), .int .i64 B0] 36 (0, 0))) ∧ Aside0 (Below w.heap.size w w'))
   case atStart => exact ⟨(c9), (0), zR, H', ⟨Nat.le_refl _⟩, ⟨zkR N0⟩, ⟨zkR T7⟩, ⟨zM a⟩, ⟨zB⟩⟩
   clear H'
   try clear c1
   try clear p2
   try clear c5
   try clear c6
   try clear F2
   try clear a5
   try clear b5
   try clear c7
   try clear d5
   try clear e5
   try clear s1 t1 x1 y1 A1 B1 C1 D1 E1 F1 G1 I1 J1 L1
   try clear C3 D3 E3 F3 G3 I3 J3 L3 M3 N3 O3 R3 S3 T3
   try clear M1 N1 O1 R1 S1 T1 U1 V1 X1 a2 b2 d2 e2 f2
   try clear i3 j3 l3 m3 n3 o3 p3 q3 s3 t3 x3 y3 A3 B3
   try clear V0 X0 a1 b1 d1 e1 g1 i1 j1 m1 n1 o1 p1 q1
   try clear M2 N2 O2 R2 T2 U2 V2 X2 a3 b3 d3 e3 f3 g3
   try clear y4 B4 C4 D4 E4 F4 G4 I4 J4 L4 M4 N4 O4 R4
   try clear X3 a4 b4 c4 d4 e4 f4 g4 i4 j4 l4 m4 n4 o4
   try clear p2
   obtain ⟨M0, i0, rfl, HA, s4, u, x, a, HB⟩ := hrel
   rcases gk with _ | k2
   · exact absurd HA.out (by simp [spec_PlanOk.l0])
   have H := HA.out
   clear HA
   simp only [spec_PlanOk.l0] at H
   by_cases S4 : i0 < (e0.length : Int)
   · rw [if_pos S4] at H
     have U7 := z1 S4
     clear S4
     by_cases s5 : 0 ≤ i0
     rotate_left
     · rw [if_neg s5] at H
       exact absurd H (by simp)
     rw [if_pos s5] at H
     have E8 := z1 s5
     clear s5
     by_cases t5 : 0 ≤ ((rd_T52 e0 i0).f0)
     rotate_left
     · rw [if_neg t5] at H
       exact absurd H (by simp)
     rw [if_pos t5] at H
     have F8 := z1 t5
     clear t5
     by_cases x5 : ((rd_T52 e0 i0).f0) < (J.length : Int)
     rotate_left
     · rw [if_neg x5] at H
       exact absurd H (by simp)
     rw [if_pos x5] at H
     have G8 := z1 x5
     clear x5
     have i8 := zK H
     clear H
     obtain ⟨a3j, L9, M9⟩ := Kd.R_slice u.out
     subst M9
     obtain ⟨y5, A5, B5, C5, D5, E5, F5, G5, I5, J5, L5, M5, N5, O5⟩ := zc7 a
     have g5 : 0 ≤ (i0 : Int) := z3
     have i5 : i0 < (e0.length : Int) := z3
     obtain ⟨I8, N9, R5, S5, T5, U5⟩ := at_T52 (Kd.R_reads' u.out).2.2 i0 g5 i5
     cases N9
     replace g5 := eq_true g5
     replace i5 := eq_true i5
     have j5 : 0 ≤ (((rd_T52 e0 i0).f0) : Int) := z3
     have l5 : ((rd_T52 e0 i0).f0) < (J.length : Int) := z3
     obtain ⟨m9, O9, U3⟩ := Kd.at_int E2.out ((rd_T52 e0 i0).f0) j5 l5
     cases O9
     (try replace U3 := zX HB U3)
     replace j5 := eq_true j5
     replace l5 := eq_true l5
     go_upto_region 9 with (fail)
     repeat (go_quiet (fail); go_upto_region 9 with (fail))
     go_cut [70] (fun v70 wc => ∃ (kq : Nat) (t4 : Bool), v70 = .bool t4 ∧ Aside0 (spec_PlanOk.j2 kq e0 M0 i0 (rd J ((rd_T52 e0 i0).f0)) t4 A L M O T J B0 = some r) ∧ Aside0 (kq ≤ k2) ∧ Aside0 (Kd.R k52 52 wc w.heap.size (fun _ => True) (.slice (some I8) e0.length L9) e0) ∧ Aside0 (Kd.R (Kd.int .i64) 3 wc w.heap.size (fun _ => True) u4 M0) ∧ Aside0 (wc.heap[L2]? = some (.cells #[(.slice m2 A.length n2), (.slice o2 L.length s2), (.slice t2 M.length x2), (.slice y2 O.length A2), (.slice B2 T.length C2), (.slice (some m9) J.length D2), .int .i64 B0] 36 (0, 0))) ∧ Aside0 (Below w.heap.size w wc))
     case first =>
      have H := i8.out
      clear i8
      by_cases T4 : (rd J ((rd_T52 e0 i0).f0)) < 0
      · rw [if_pos T4] at H
        have G2 := z1 T4
        clear T4
        (first | rw [G2] | (simp only [i64_w, i32_w]; rw [G2]) | skip)
        have H' := zK H
        clear H
        go_wp2
        repeat (go_quiet (fail); try go_wp2)
        go_meet
        case rel => exact ⟨_, (true), zR, H', ⟨by have := p4.out; have := s4.out; first | omega | exact Nat.le_refl _⟩, ⟨zkR u⟩, ⟨zkR x⟩, ⟨zM a⟩, ⟨zB⟩⟩
      rw [if_neg T4] at H
      have G2 := z2 T4
      clear T4
      (first | rw [G2] | (simp only [i64_w, i32_w]; rw [G2]) | skip)
      by_cases U4 : (rd J ((rd_T52 e0 i0).f0)) > 1000000
      · rw [if_pos U4] at H
        have V7 := z1 U4
        clear U4
        have H' := zK H
        clear H
        go_wp2
        repeat (go_quiet (fail); try go_wp2)
        go_meet
        case rel => exact ⟨_, (true), zR, H', ⟨by have := p4.out; have := s4.out; first | omega | exact Nat.le_refl _⟩, ⟨zkR u⟩, ⟨zkR x⟩, ⟨zM a⟩, ⟨zB⟩⟩
      rw [if_neg U4] at H
      have V7 := z2 U4
      clear U4
      have H' := zK H
      clear H
      have m5 : 0 ≤ (i0 : Int) := z3
      have n5 : i0 < (e0.length : Int) := z3
      obtain ⟨n9, R9, V5, X5, a6, b6⟩ := at_T52 (Kd.R_reads' u.out).2.2 i0 m5 n5
      obtain rfl : I8 = n9 := (by injection R9)
      replace m5 := eq_true m5
      replace n5 := eq_true n5
      obtain ⟨d6, e6, f6, g6, i6, j6, l6, m6, n6, o6, q6, s6, t6, x6⟩ := zc7 a
      go_wp2
      repeat (go_quiet (fail); try go_wp2)
      go_meet
      case rel => exact ⟨_, (decide ((wrap64 ((rd J ((rd_T52 e0 i0).f0)) + ((rd_T52 e0 i0).f1))) > B0)), zR, H', ⟨by have := p4.out; have := s4.out; first | omega | exact Nat.le_refl _⟩, ⟨zkR u⟩, ⟨zkR x⟩, ⟨zM a⟩, ⟨zB⟩⟩
     case rest =>
      clear i8
      try clear c1
      try clear c2
      try clear p2
      try clear q2
      try clear hx2
      try clear c3
      try clear c5
      try clear c6
      try clear F2
      try clear a5
      try clear b5
      try clear p6
      try clear c7
      try clear d5
      try clear e5
      try clear B9
      try clear C9
      try clear S9
      try clear S4
      try clear U7
      try clear s5
      try clear E8
      try clear t5
      try clear F8
      try clear x5
      try clear G8
      try clear T4
      try clear G2
      try clear U4
      try clear V7
      try clear s1 t1 x1 y1 A1 B1 C1 D1 E1 F1 G1 I1 J1 L1
      try clear C3 D3 E3 F3 G3 I3 J3 L3 M3 N3 O3 R3 S3 T3
      try clear M1 N1 O1 R1 S1 T1 U1 V1 X1 a2 b2 d2 e2 f2
      try clear i3 j3 l3 m3 n3 o3 p3 q3 s3 t3 x3 y3 A3 B3
      try clear V0 X0 a1 b1 d1 e1 g1 i1 j1 m1 n1 o1 p1 q1
      try clear M2 N2 O2 R2 T2 U2 V2 X2 a3 b3 d3 e3 f3 g3
      try clear y4 B4 C4 D4 E4 F4 G4 I4 J4 L4 M4 N4 O4 R4
      try clear y5 A5 B5 C5 D5 E5 F5 G5 I5 J5 L5 M5 N5 O5
      try clear d6 e6 f6 g6 i6 j6 l6 m6 n6 o6 q6 s6 t6 x6
      try clear X3 a4 b4 c4 d4 e4 f4 g4 i4 j4 l4 m4 n4 o4
      try clear R5
      try clear S5
      try clear T5
      try clear U5
      try clear U3
      try clear V5
      try clear X5
      try clear a6
      try clear b6
      try clear p2
      try clear g5
      try clear j5
      try clear m5
      try clear i5
      try clear l5
      try clear n5
      obtain ⟨kq, t4, rfl, HA, d9, u, x, a, HB⟩ := hcut
      cases kq with
      | zero => exact absurd HA.out (by simp [spec_PlanOk.j2])
      | succ e9 =>
       have H := HA.out
       clear HA
       simp only [spec_PlanOk.j2] at H
       by_cases c8 : t4 = true
       · subst c8
         rw [if_pos rfl] at H
         obtain rfl := z5 H
         go_wp2
         repeat (go_quiet (fail); try go_wp2)
         go_ret
         exact ⟨zE, zB⟩
       replace c8 := Bool.eq_false_iff.mpr c8
       subst c8
       rw [if_neg (show ¬ (false = true) by decide)] at H
       by_cases d8 : M0.length < 17592186044416
       rotate_left
       · rw [if_neg d8] at H
         exact absurd H (by simp)
       rw [if_pos d8] at H
       have LMc36 := zK d8
       clear d8
       obtain ⟨f9, x4⟩ : ∃ y_ : List Int, y_ = (M0 ++ [(rd J ((rd_T52 e0 i0).f0))]) := ⟨_, rfl⟩
       replace H : (spec_PlanOk.l0 e9 e0 f9 (wrap64 (i0 + 1)) A L M O T J B0) = some r := by first | (rw [x4]; with_reducible exact H) | (have f5 := (Option.bind_some _ _).symm.trans H; rw [x4]; with_reducible exact f5) | (have f5 := (Option.bind_some _ _).symm.trans H; with_reducible exact f5) | with_reducible exact H | (rw [x4]; exact H) | exact H
       have Ny246 := zK x4
       clear x4
       have H' := zK H
       clear H
       go_wp2_with (first | ((with_reducible refine gate_builtin (b := .append) (xs := #[.tmp 71, .tmp 73]) rfl ?_); (try (refine gate_guard (by rfl) ?_; dsimp only)); at_builtin; refine Kd.R_append (Kd.int .i64) (w0 := w) w.heap.size rfl (.tmp 71) (.tmp 73) 22 3 (.int .i64 0) 8 rfl Try.underlying22 info3 rfl (by decide) (by omega) u4 M0 (rd J ((rd_T52 e0 i0).f0)) [.int .i64 (rd J ((rd_T52 e0 i0).f0))] (fun _ => True) (fun _ => False) rfl rfl ?aP (fun _ hk => hk.elim) ?aF ?aO ?aB ?aS ?aL ?_; (case aP => exact rfl); (case aB => exact zB); (case aF => exact (fun _ _ => trivial)); (case aO => exact (zkR x)); (case aS => exact (zz zB)); (case aL => have := LMc36.out; omega); intro v247 D9 ho hb hg hat; rw [← Ny246.out] at ho; have y := zK (Kd.R_over' (zkR u) (Kd.R_typed (zkR x)) (by decide) hg); have z := zK (blk_grown (zM a) hg (Kd.R_ne x.out a.out (by decide))); have U := zK (hb); have X := zK (ho); revert y z U X; clear u a HB x; intro u a HB X7; clear ho hb hg hat))
       repeat (go_quiet (first | ((with_reducible refine gate_builtin (b := .append) (xs := #[.tmp 71, .tmp 73]) rfl ?_); (try (refine gate_guard (by rfl) ?_; dsimp only)); at_builtin; refine Kd.R_append (Kd.int .i64) (w0 := w) w.heap.size rfl (.tmp 71) (.tmp 73) 22 3 (.int .i64 0) 8 rfl Try.underlying22 info3 rfl (by decide) (by omega) u4 M0 (rd J ((rd_T52 e0 i0).f0)) [.int .i64 (rd J ((rd_T52 e0 i0).f0))] (fun _ => True) (fun _ => False) rfl rfl ?aP (fun _ hk => hk.elim) ?aF ?aO ?aB ?aS ?aL ?_; (case aP => exact rfl); (case aB => exact zB); (case aF => exact (fun _ _ => trivial)); (case aO => exact (zkR x)); (case aS => exact (zz zB)); (case aL => have := LMc36.out; omega); intro v247 D9 ho hb hg hat; rw [← Ny246.out] at ho; have y := zK (Kd.R_over' (zkR u) (Kd.R_typed (zkR x)) (by decide) hg); have z := zK (blk_grown (zM a) hg (Kd.R_ne x.out a.out (by decide))); have U := zK (hb); have X := zK (ho); revert y z U X; clear u a HB x; intro u a HB X7; clear ho hb hg hat)); try go_wp2_with (first | ((with_reducible refine gate_builtin (b := .append) (xs := #[.tmp 71, .tmp 73]) rfl ?_); (try (refine gate_guard (by rfl) ?_; dsimp only)); at_builtin; refine Kd.R_append (Kd.int .i64) (w0 := w) w.heap.size rfl (.tmp 71) (.tmp 73) 22 3 (.int .i64 0) 8 rfl Try.underlying22 info3 rfl (by decide) (by omega) u4 M0 (rd J ((rd_T52 e0 i0).f0)) [.int .i64 (rd J ((rd_T52 e0 i0).f0))] (fun _ => True) (fun _ => False) rfl rfl ?aP (fun _ hk => hk.elim) ?aF ?aO ?aB ?aS ?aL ?_; (case aP => exact rfl); (case aB => exact zB); (case aF => exact (fun _ _ => trivial)); (case aO => exact (zkR x)); (case aS => exact (zz zB)); (case aL => have := LMc36.out; omega); intro v247 D9 ho hb hg hat; rw [← Ny246.out] at ho; have y := zK (Kd.R_over' (zkR u) (Kd.R_typed (zkR x)) (by decide) hg); have z := zK (blk_grown (zM a) hg (Kd.R_ne x.out a.out (by decide))); have U := zK (hb); have X := zK (ho); revert y z U X; clear u a HB x; intro u a HB X7; clear ho hb hg hat)))
       go_roundg e9
       case measure => have := p4.out; have := s4.out; have := d9.out; omega
       case rel => exact ⟨(f9), (wrap64 (i0 + 1)), zR, H', ⟨by have := p4.out; have := s4.out; have := d9.out; omega⟩, ⟨zkR u⟩, ⟨zkR X7⟩, ⟨zM a⟩, ⟨zB⟩⟩
   rw [if_neg S4] at H
   have U7 := z2 S4
   clear S4
   have H' := zK H
   clear H
   obtain ⟨T9, U9, V9⟩ := Kd.R_slice u.out
   subst V9
   go_wp2
   repeat (go_quiet (fail); try go_wp2)
   go_loopg [7] k2 (fun kq v7 w' => ∃ (d0 : Int), v7 = .int .i64 d0 ∧ Aside0 (spec_PlanOk.l1 kq e0 M0 d0 A L M O T J B0 = some r) ∧ Aside0 (kq ≤ k2) ∧ Aside0 (Kd.R k52 52 w' w.heap.size (fun _ => True) (.slice T9 e0.length U9) e0) ∧ Aside0 (Kd.R (Kd.int .i64) 3 w' w.heap.size (fun _ => True) u4 M0) ∧ Aside0 (w'.heap[L2]? = some (.cells #[(.slice m2 A.length n2), (.slice o2 L.length s2), (.slice t2 M.length x2), (.slice y2 O.length A2), (.slice B2 T.length C2), (.slice J2 J.length D2), .int .i64 B0] 36 (0, 0))) ∧ Aside0 (Below w.heap.size w w'))
   case atStart => exact ⟨(0), zR, H', ⟨Nat.le_refl _⟩, ⟨zkR u⟩, ⟨zkR x⟩, ⟨zM a⟩, ⟨zB⟩⟩
   clear H'
   try clear c1
   try clear c2
   try clear p2
   try clear q2
   try clear hx2
   try clear c3
   try clear c5
   try clear c6
   try clear F2
   try clear a5
   try clear b5
   try clear p6
   try clear c7
   try clear d5
   try clear e5
   try clear B9
   try clear C9
   try clear S9
   try clear S4
   try clear U7
   try clear s5
   try clear E8
   try clear t5
   try clear F8
   try clear x5
   try clear G8
   try clear T4
   try clear G2
   try clear U4
   try clear V7
   try clear c8
   try clear d8
   try clear s1 t1 x1 y1 A1 B1 C1 D1 E1 F1 G1 I1 J1 L1
   try clear C3 D3 E3 F3 G3 I3 J3 L3 M3 N3 O3 R3 S3 T3
   try clear M1 N1 O1 R1 S1 T1 U1 V1 X1 a2 b2 d2 e2 f2
   try clear i3 j3 l3 m3 n3 o3 p3 q3 s3 t3 x3 y3 A3 B3
   try clear V0 X0 a1 b1 d1 e1 g1 i1 j1 m1 n1 o1 p1 q1
   try clear M2 N2 O2 R2 T2 U2 V2 X2 a3 b3 d3 e3 f3 g3
   try clear y4 B4 C4 D4 E4 F4 G4 I4 J4 L4 M4 N4 O4 R4
   try clear y5 A5 B5 C5 D5 E5 F5 G5 I5 J5 L5 M5 N5 O5
   try clear d6 e6 f6 g6 i6 j6 l6 m6 n6 o6 q6 s6 t6 x6
   try clear X3 a4 b4 c4 d4 e4 f4 g4 i4 j4 l4 m4 n4 o4
   try clear R5
   try clear S5
   try clear T5
   try clear U5
   try clear U3
   try clear V5
   try clear X5
   try clear a6
   try clear b6
   try clear p2
   try clear B9
   try clear g5
   try clear j5
   try clear m5
   try clear p6
   try clear q2
   try clear C9
   try clear i5
   try clear l5
   try clear n5
   obtain ⟨d0, rfl, HA, J8, u, x, a, HB⟩ := hrel
   rcases gk with _ | k3
   · exact absurd HA.out (by simp [spec_PlanOk.l1])
   have H := HA.out
   clear HA
   simp only [spec_PlanOk.l1] at H
   by_cases y6 : d0 < (J.length : Int)
   rotate_left
   · rw [if_neg y6] at H
     have o9 := z2 y6
     clear y6
     replace H := z6 H
     obtain ⟨j8, g9, H⟩ := H
     have i9 := zK g9
     clear g9
     obtain rfl := z5 H
     obtain ⟨a0a, a0b, a0c, a0d, a0e, a0f, a0g, a0j, a0l, a0m, a0n, a0o, a0p, a0q⟩ := zc7 a
     obtain ⟨a3n, a3o, X9⟩ := Kd.R_slice x.out
     subst X9
     go_wp2_with (first | (go_at_call 22; (with_reducible refine (spec_PackOk.calls k3 _ _ e0 _ _ M0 j8 _ ?side1 ?side2 ?side3 ?side4 i9.out).mono ?_); (case side1 => exact zC (Kd.R_reads' u.out).2.2); (case side2 => exact (Kd.R_reads' u.out).2.1); (case side3 => exact zC (Kd.R_reads' x.out).2.2); (case side4 => exact (Kd.R_reads' x.out).2.1); rintro e E9 ⟨rfl, hb⟩; have y := zK (Kd.R_below (zkR u) hb); have z := zK (Kd.R_below (zkR x) hb); have U := z7 a hb; have X := z8 hb; revert y z U X; clear u x a HB; intro u x a HB))
     repeat (go_quiet (first | (go_at_call 22; (with_reducible refine (spec_PackOk.calls k3 _ _ e0 _ _ M0 j8 _ ?side1 ?side2 ?side3 ?side4 i9.out).mono ?_); (case side1 => exact zC (Kd.R_reads' u.out).2.2); (case side2 => exact (Kd.R_reads' u.out).2.1); (case side3 => exact zC (Kd.R_reads' x.out).2.2); (case side4 => exact (Kd.R_reads' x.out).2.1); rintro e E9 ⟨rfl, hb⟩; have y := zK (Kd.R_below (zkR u) hb); have z := zK (Kd.R_below (zkR x) hb); have U := z7 a hb; have X := z8 hb; revert y z U X; clear u x a HB; intro u x a HB)); try go_wp2_with (first | (go_at_call 22; (with_reducible refine (spec_PackOk.calls k3 _ _ e0 _ _ M0 j8 _ ?side1 ?side2 ?side3 ?side4 i9.out).mono ?_); (case side1 => exact zC (Kd.R_reads' u.out).2.2); (case side2 => exact (Kd.R_reads' u.out).2.1); (case side3 => exact zC (Kd.R_reads' x.out).2.2); (case side4 => exact (Kd.R_reads' x.out).2.1); rintro e E9 ⟨rfl, hb⟩; have y := zK (Kd.R_below (zkR u) hb); have z := zK (Kd.R_below (zkR x) hb); have U := z7 a hb; have X := z8 hb; revert y z U X; clear u x a HB; intro u x a HB)))
     go_ret
     exact ⟨zE, zB⟩
   rw [if_pos y6] at H
   have o9 := z1 y6
   clear y6
   replace H := z6 H
   obtain ⟨⟨F0, G0, I0, J0, j9⟩, l9, H⟩ := H
   replace H : (if j9 = true then (spec_PlanOk.l1 k3 e0 M0 (wrap64 (d0 + 1)) A L M O T J B0) else (if 0 ≤ d0 then (if (rd J d0) = (-1) then (spec_PlanOk.l1 k3 e0 M0 (wrap64 (d0 + 1)) A L M O T J B0) else (some false)) else (none))) = some r := H
   have I2 := zK l9
   clear l9
   by_cases L8 : j9 = true
   · subst L8
     rw [if_pos rfl] at H
     have H' := zK H
     clear H
     obtain ⟨a0s, a0t, a0u, a0x, a0y, a0z, a1a, a1b, a1c, a1d, a1e, a1f, a1g, a1j⟩ := zc7 a
     go_wp2_with (first | (go_at_call 21; (with_reducible refine (spec_l12Life.calls k3 _ _ A _ _ L _ _ M _ _ O _ _ T d0 F0 G0 I0 J0 true _ ?side1 ?side2 ?side3 ?side4 ?side5 ?side6 ?side7 ?side8 ?side9 ?side10 I2.out).mono ?_); (case side1 => exact zS m0); (case side2 => exact n0.out); (case side3 => exact zS o0); (case side4 => exact p0.out); (case side5 => exact zS q0); (case side6 => exact s0.out); (case side7 => exact zS t0); (case side8 => exact x0.out); (case side9 => exact zS y0); (case side10 => exact A0.out); rintro e F9 ⟨rfl, hb⟩; have y := zK (Kd.R_below (zkR u) hb); have z := zK (Kd.R_below (zkR x) hb); have U := z7 a hb; have X := z8 hb; revert y z U X; clear u x a HB; intro u x a HB) | ((with_reducible refine gd 8 rfl ?_); (try (refine gate_guard (by rfl) ?_; dsimp only)); refine zJ 8 #[.int .i64 0, .int .i64 0, .int .i64 0, .int .i64 0] 52 ?_; intro q hg G9 hbox hb; have y := zK (Kd.R_below (Kd.R_elderB (zkR u) q (Nat.le_of_eq hg.symm)) hb); have z := zK (Kd.R_below (zkR x) hb); have U := z7 a hb; have X := z8 hb; have O0 := zK (hbox); have R0 := z9 hg; have S0 := z9 hg; have T0 := zHH hg a; have U0 := zGG hg a; revert y z U X O0 R0 S0 T0 U0; clear u x a HB; intro u x a HB C0 a0 i2 b0 c0; clear hb hbox hg; have M8 := c0.out; have N8 := b0.out; obtain ⟨A6, B6, C6, D6, E6, F6, G6, I6⟩ := zc4 C0))
     repeat (go_quiet (first | (go_at_call 21; (with_reducible refine (spec_l12Life.calls k3 _ _ A _ _ L _ _ M _ _ O _ _ T d0 F0 G0 I0 J0 true _ ?side1 ?side2 ?side3 ?side4 ?side5 ?side6 ?side7 ?side8 ?side9 ?side10 I2.out).mono ?_); (case side1 => exact zS m0); (case side2 => exact n0.out); (case side3 => exact zS o0); (case side4 => exact p0.out); (case side5 => exact zS q0); (case side6 => exact s0.out); (case side7 => exact zS t0); (case side8 => exact x0.out); (case side9 => exact zS y0); (case side10 => exact A0.out); rintro e F9 ⟨rfl, hb⟩; have y := zK (Kd.R_below (zkR u) hb); have z := zK (Kd.R_below (zkR x) hb); have U := z7 a hb; have X := z8 hb; revert y z U X; clear u x a HB; intro u x a HB) | ((with_reducible refine gd 8 rfl ?_); (try (refine gate_guard (by rfl) ?_; dsimp only)); refine zJ 8 #[.int .i64 0, .int .i64 0, .int .i64 0, .int .i64 0] 52 ?_; intro q hg G9 hbox hb; have y := zK (Kd.R_below (Kd.R_elderB (zkR u) q (Nat.le_of_eq hg.symm)) hb); have z := zK (Kd.R_below (zkR x) hb); have U := z7 a hb; have X := z8 hb; have O0 := zK (hbox); have R0 := z9 hg; have S0 := z9 hg; have T0 := zHH hg a; have U0 := zGG hg a; revert y z U X O0 R0 S0 T0 U0; clear u x a HB; intro u x a HB C0 a0 i2 b0 c0; clear hb hbox hg; have M8 := c0.out; have N8 := b0.out; obtain ⟨A6, B6, C6, D6, E6, F6, G6, I6⟩ := zc4 C0)); try go_wp2_with (first | (go_at_call 21; (with_reducible refine (spec_l12Life.calls k3 _ _ A _ _ L _ _ M _ _ O _ _ T d0 F0 G0 I0 J0 true _ ?side1 ?side2 ?side3 ?side4 ?side5 ?side6 ?side7 ?side8 ?side9 ?side10 I2.out).mono ?_); (case side1 => exact zS m0); (case side2 => exact n0.out); (case side3 => exact zS o0); (case side4 => exact p0.out); (case side5 => exact zS q0); (case side6 => exact s0.out); (case side7 => exact zS t0); (case side8 => exact x0.out); (case side9 => exact zS y0); (case side10 => exact A0.out); rintro e F9 ⟨rfl, hb⟩; have y := zK (Kd.R_below (zkR u) hb); have z := zK (Kd.R_below (zkR x) hb); have U := z7 a hb; have X := z8 hb; revert y z U X; clear u x a HB; intro u x a HB) | ((with_reducible refine gd 8 rfl ?_); (try (refine gate_guard (by rfl) ?_; dsimp only)); refine zJ 8 #[.int .i64 0, .int .i64 0, .int .i64 0, .int .i64 0] 52 ?_; intro q hg G9 hbox hb; have y := zK (Kd.R_below (Kd.R_elderB (zkR u) q (Nat.le_of_eq hg.symm)) hb); have z := zK (Kd.R_below (zkR x) hb); have U := z7 a hb; have X := z8 hb; have O0 := zK (hbox); have R0 := z9 hg; have S0 := z9 hg; have T0 := zHH hg a; have U0 := zGG hg a; revert y z U X O0 R0 S0 T0 U0; clear u x a HB; intro u x a HB C0 a0 i2 b0 c0; clear hb hbox hg; have M8 := c0.out; have N8 := b0.out; obtain ⟨A6, B6, C6, D6, E6, F6, G6, I6⟩ := zc4 C0)))
     go_roundg k3
     case measure => have := p4.out; have := s4.out; have := J8.out; omega
     case rel => exact ⟨(wrap64 (d0 + 1)), zR, H', ⟨by have := p4.out; have := s4.out; have := J8.out; omega⟩, ⟨Kd.R_mono (zlR (Kd.R_mono u.out (fun k_ hk => (⟨hk, hk.2⟩ : _ ∧ k_ ≠ q)))) (fun _ hk => trivial)⟩, ⟨Kd.R_mono (zlR (Kd.R_types x.out C0.out (by decide))) (fun _ hk => trivial)⟩, ⟨zV a⟩, ⟨zB⟩⟩
   replace L8 := Bool.eq_false_iff.mpr L8
   subst L8
   rw [if_neg (show ¬ (false = true) by decide)] at H
   by_cases O8 : 0 ≤ d0
   rotate_left
   · rw [if_neg O8] at H
     exact absurd H (by simp)
   rw [if_pos O8] at H
   have a3d := z1 O8
   clear O8
   by_cases o5 : (rd J d0) = (-1)
   rotate_left
   · rw [if_neg o5] at H
     have p9 := beq_eq_false_iff_ne.mpr o5
     have q9 := bne_iff_ne.mpr o5
     obtain rfl := z5 H
     obtain ⟨a1l, a1m, a1n, a1o, a1p, a1q, a1s, a1t, a1u, a1x, a1y, a1z, a2a, a2b⟩ := zc7 a
     go_wp2_with (first | (go_at_call 21; (with_reducible refine (spec_l12Life.calls k3 _ _ A _ _ L _ _ M _ _ O _ _ T d0 F0 G0 I0 J0 false _ ?side1 ?side2 ?side3 ?side4 ?side5 ?side6 ?side7 ?side8 ?side9 ?side10 I2.out).mono ?_); (case side1 => exact zS m0); (case side2 => exact n0.out); (case side3 => exact zS o0); (case side4 => exact p0.out); (case side5 => exact zS q0); (case side6 => exact s0.out); (case side7 => exact zS t0); (case side8 => exact x0.out); (case side9 => exact zS y0); (case side10 => exact A0.out); rintro e I9 ⟨rfl, hb⟩; have y := zK (Kd.R_below (zkR u) hb); have z := zK (Kd.R_below (zkR x) hb); have U := z7 a hb; have X := z8 hb; revert y z U X; clear u x a HB; intro u x a HB) | ((with_reducible refine gd 8 rfl ?_); (try (refine gate_guard (by rfl) ?_; dsimp only)); refine zJ 8 #[.int .i64 0, .int .i64 0, .int .i64 0, .int .i64 0] 52 ?_; intro q hg e8 hbox hb; have y := zK (Kd.R_below (Kd.R_elderB (zkR u) q (Nat.le_of_eq hg.symm)) hb); have z := zK (Kd.R_below (zkR x) hb); have U := z7 a hb; have X := z8 hb; have O0 := zK (hbox); have R0 := z9 hg; have S0 := z9 hg; have T0 := zHH hg a; have U0 := zGG hg a; revert y z U X O0 R0 S0 T0 U0; clear u x a HB; intro u x a HB C0 a0 i2 b0 c0; clear hb hbox hg; have R8 := c0.out; have S8 := b0.out; obtain ⟨J6, L6, M6, N6, O6, R6, S6, T6⟩ := zc4 C0; obtain ⟨U6, V6, X6, a7, b7, d7, e7, f7, g7, i7, j7, l7, m7, n7⟩ := zc7 a; have D0 : 0 ≤ (d0 : Int) := z3; have E0 : d0 < (J.length : Int) := z3; obtain ⟨g0, g2, l⟩ := Kd.at_int E2.out d0 D0 E0; cases g2; have B : g0.block ≠ q := Nat.ne_of_lt (Nat.lt_of_lt_of_le (by have := World.block_lt_of_cell? _ _ l; first | rwa [add_block] at this | exact this) a0.out); have D : g0.block ≠ q := Nat.ne_of_lt (Nat.lt_of_lt_of_le (by have := World.block_lt_of_cell? _ _ l; first | rwa [add_block] at this | exact this) a0.out); have E : g0.block ≠ q := Nat.ne_of_lt (Nat.lt_of_lt_of_le (by have := World.block_lt_of_cell? _ _ l; first | rwa [add_block] at this | exact this) a0.out); have I : g0.block ≠ q := Nat.ne_of_lt (Nat.lt_of_lt_of_le (by have := World.block_lt_of_cell? _ _ l; first | rwa [add_block] at this | exact this) a0.out); (try replace l := zX HB l); replace l := (cell_far (p := ⟨q, 0, none⟩) (by first | (rw [add_block]; exact B) | (show (Addr.add _ _).block ≠ _; rw [add_block]; exact B) | exact B) (.int .i64 F0)).trans l; replace l := (cell_far (p := ⟨q, 1, none⟩) (by first | (rw [add_block]; exact D) | (show (Addr.add _ _).block ≠ _; rw [add_block]; exact D) | exact D) (.int .i64 G0)).trans l; replace l := (cell_far (p := ⟨q, 2, none⟩) (by first | (rw [add_block]; exact E) | (show (Addr.add _ _).block ≠ _; rw [add_block]; exact E) | exact E) (.int .i64 I0)).trans l; replace l := (cell_far (p := ⟨q, 3, none⟩) (by first | (rw [add_block]; exact I) | (show (Addr.add _ _).block ≠ _; rw [add_block]; exact I) | exact I) (.int .i64 J0)).trans l; (try have l2 := fun (n_ : Nat) => (show ((((((e8.drewN n_).setCell ⟨q, 0, none⟩ (.int .i64 F0)).setCell ⟨q, 1, none⟩ (.int .i64 G0)).setCell ⟨q, 2, none⟩ (.int .i64 I0)).setCell ⟨q, 3, none⟩ (.int .i64 J0))).cell? _ = some _ from l)); clear B; clear D; clear E; clear I; replace D0 := eq_true D0; replace E0 := eq_true E0))
     repeat (go_quiet (first | (go_at_call 21; (with_reducible refine (spec_l12Life.calls k3 _ _ A _ _ L _ _ M _ _ O _ _ T d0 F0 G0 I0 J0 false _ ?side1 ?side2 ?side3 ?side4 ?side5 ?side6 ?side7 ?side8 ?side9 ?side10 I2.out).mono ?_); (case side1 => exact zS m0); (case side2 => exact n0.out); (case side3 => exact zS o0); (case side4 => exact p0.out); (case side5 => exact zS q0); (case side6 => exact s0.out); (case side7 => exact zS t0); (case side8 => exact x0.out); (case side9 => exact zS y0); (case side10 => exact A0.out); rintro e I9 ⟨rfl, hb⟩; have y := zK (Kd.R_below (zkR u) hb); have z := zK (Kd.R_below (zkR x) hb); have U := z7 a hb; have X := z8 hb; revert y z U X; clear u x a HB; intro u x a HB) | ((with_reducible refine gd 8 rfl ?_); (try (refine gate_guard (by rfl) ?_; dsimp only)); refine zJ 8 #[.int .i64 0, .int .i64 0, .int .i64 0, .int .i64 0] 52 ?_; intro q hg e8 hbox hb; have y := zK (Kd.R_below (Kd.R_elderB (zkR u) q (Nat.le_of_eq hg.symm)) hb); have z := zK (Kd.R_below (zkR x) hb); have U := z7 a hb; have X := z8 hb; have O0 := zK (hbox); have R0 := z9 hg; have S0 := z9 hg; have T0 := zHH hg a; have U0 := zGG hg a; revert y z U X O0 R0 S0 T0 U0; clear u x a HB; intro u x a HB C0 a0 i2 b0 c0; clear hb hbox hg; have R8 := c0.out; have S8 := b0.out; obtain ⟨J6, L6, M6, N6, O6, R6, S6, T6⟩ := zc4 C0; obtain ⟨U6, V6, X6, a7, b7, d7, e7, f7, g7, i7, j7, l7, m7, n7⟩ := zc7 a; have D0 : 0 ≤ (d0 : Int) := z3; have E0 : d0 < (J.length : Int) := z3; obtain ⟨g0, g2, l⟩ := Kd.at_int E2.out d0 D0 E0; cases g2; have B : g0.block ≠ q := Nat.ne_of_lt (Nat.lt_of_lt_of_le (by have := World.block_lt_of_cell? _ _ l; first | rwa [add_block] at this | exact this) a0.out); have D : g0.block ≠ q := Nat.ne_of_lt (Nat.lt_of_lt_of_le (by have := World.block_lt_of_cell? _ _ l; first | rwa [add_block] at this | exact this) a0.out); have E : g0.block ≠ q := Nat.ne_of_lt (Nat.lt_of_lt_of_le (by have := World.block_lt_of_cell? _ _ l; first | rwa [add_block] at this | exact this) a0.out); have I : g0.block ≠ q := Nat.ne_of_lt (Nat.lt_of_lt_of_le (by have := World.block_lt_of_cell? _ _ l; first | rwa [add_block] at this | exact this) a0.out); (try replace l := zX HB l); replace l := (cell_far (p := ⟨q, 0, none⟩) (by first | (rw [add_block]; exact B) | (show (Addr.add _ _).block ≠ _; rw [add_block]; exact B) | exact B) (.int .i64 F0)).trans l; replace l := (cell_far (p := ⟨q, 1, none⟩) (by first | (rw [add_block]; exact D) | (show (Addr.add _ _).block ≠ _; rw [add_block]; exact D) | exact D) (.int .i64 G0)).trans l; replace l := (cell_far (p := ⟨q, 2, none⟩) (by first | (rw [add_block]; exact E) | (show (Addr.add _ _).block ≠ _; rw [add_block]; exact E) | exact E) (.int .i64 I0)).trans l; replace l := (cell_far (p := ⟨q, 3, none⟩) (by first | (rw [add_block]; exact I) | (show (Addr.add _ _).block ≠ _; rw [add_block]; exact I) | exact I) (.int .i64 J0)).trans l; (try have l2 := fun (n_ : Nat) => (show ((((((e8.drewN n_).setCell ⟨q, 0, none⟩ (.int .i64 F0)).setCell ⟨q, 1, none⟩ (.int .i64 G0)).setCell ⟨q, 2, none⟩ (.int .i64 I0)).setCell ⟨q, 3, none⟩ (.int .i64 J0))).cell? _ = some _ from l)); clear B; clear D; clear E; clear I; replace D0 := eq_true D0; replace E0 := eq_true E0)); try go_wp2_with (first | (go_at_call 21; (with_reducible refine (spec_l12Life.calls k3 _ _ A _ _ L _ _ M _ _ O _ _ T d0 F0 G0 I0 J0 false _ ?side1 ?side2 ?side3 ?side4 ?side5 ?side6 ?side7 ?side8 ?side9 ?side10 I2.out).mono ?_); (case side1 => exact zS m0); (case side2 => exact n0.out); (case side3 => exact zS o0); (case side4 => exact p0.out); (case side5 => exact zS q0); (case side6 => exact s0.out); (case side7 => exact zS t0); (case side8 => exact x0.out); (case side9 => exact zS y0); (case side10 => exact A0.out); rintro e I9 ⟨rfl, hb⟩; have y := zK (Kd.R_below (zkR u) hb); have z := zK (Kd.R_below (zkR x) hb); have U := z7 a hb; have X := z8 hb; revert y z U X; clear u x a HB; intro u x a HB) | ((with_reducible refine gd 8 rfl ?_); (try (refine gate_guard (by rfl) ?_; dsimp only)); refine zJ 8 #[.int .i64 0, .int .i64 0, .int .i64 0, .int .i64 0] 52 ?_; intro q hg e8 hbox hb; have y := zK (Kd.R_below (Kd.R_elderB (zkR u) q (Nat.le_of_eq hg.symm)) hb); have z := zK (Kd.R_below (zkR x) hb); have U := z7 a hb; have X := z8 hb; have O0 := zK (hbox); have R0 := z9 hg; have S0 := z9 hg; have T0 := zHH hg a; have U0 := zGG hg a; revert y z U X O0 R0 S0 T0 U0; clear u x a HB; intro u x a HB C0 a0 i2 b0 c0; clear hb hbox hg; have R8 := c0.out; have S8 := b0.out; obtain ⟨J6, L6, M6, N6, O6, R6, S6, T6⟩ := zc4 C0; obtain ⟨U6, V6, X6, a7, b7, d7, e7, f7, g7, i7, j7, l7, m7, n7⟩ := zc7 a; have D0 : 0 ≤ (d0 : Int) := z3; have E0 : d0 < (J.length : Int) := z3; obtain ⟨g0, g2, l⟩ := Kd.at_int E2.out d0 D0 E0; cases g2; have B : g0.block ≠ q := Nat.ne_of_lt (Nat.lt_of_lt_of_le (by have := World.block_lt_of_cell? _ _ l; first | rwa [add_block] at this | exact this) a0.out); have D : g0.block ≠ q := Nat.ne_of_lt (Nat.lt_of_lt_of_le (by have := World.block_lt_of_cell? _ _ l; first | rwa [add_block] at this | exact this) a0.out); have E : g0.block ≠ q := Nat.ne_of_lt (Nat.lt_of_lt_of_le (by have := World.block_lt_of_cell? _ _ l; first | rwa [add_block] at this | exact this) a0.out); have I : g0.block ≠ q := Nat.ne_of_lt (Nat.lt_of_lt_of_le (by have := World.block_lt_of_cell? _ _ l; first | rwa [add_block] at this | exact this) a0.out); (try replace l := zX HB l); replace l := (cell_far (p := ⟨q, 0, none⟩) (by first | (rw [add_block]; exact B) | (show (Addr.add _ _).block ≠ _; rw [add_block]; exact B) | exact B) (.int .i64 F0)).trans l; replace l := (cell_far (p := ⟨q, 1, none⟩) (by first | (rw [add_block]; exact D) | (show (Addr.add _ _).block ≠ _; rw [add_block]; exact D) | exact D) (.int .i64 G0)).trans l; replace l := (cell_far (p := ⟨q, 2, none⟩) (by first | (rw [add_block]; exact E) | (show (Addr.add _ _).block ≠ _; rw [add_block]; exact E) | exact E) (.int .i64 I0)).trans l; replace l := (cell_far (p := ⟨q, 3, none⟩) (by first | (rw [add_block]; exact I) | (show (Addr.add _ _).block ≠ _; rw [add_block]; exact I) | exact I) (.int .i64 J0)).trans l; (try have l2 := fun (n_ : Nat) => (show ((((((e8.drewN n_).setCell ⟨q, 0, none⟩ (.int .i64 F0)).setCell ⟨q, 1, none⟩ (.int .i64 G0)).setCell ⟨q, 2, none⟩ (.int .i64 I0)).setCell ⟨q, 3, none⟩ (.int .i64 J0))).cell? _ = some _ from l)); clear B; clear D; clear E; clear I; replace D0 := eq_true D0; replace E0 := eq_true E0)))
     go_ret
     exact ⟨zE, zB⟩
   rw [if_pos o5] at H
   have p9 := beq_iff_eq.mpr o5
   have q9 := bne_eq_false_iff_eq.mpr o5
   clear o5
   have H' := zK H
   clear H
   obtain ⟨a2c, a2d, a2e, a2f, a2g, a2j, a2l, a2m, a2n, a2o, a2p, a2q, a2s, a2t⟩ := zc7 a
   go_wp2_with (first | (go_at_call 21; (with_reducible refine (spec_l12Life.calls k3 _ _ A _ _ L _ _ M _ _ O _ _ T d0 F0 G0 I0 J0 false _ ?side1 ?side2 ?side3 ?side4 ?side5 ?side6 ?side7 ?side8 ?side9 ?side10 I2.out).mono ?_); (case side1 => exact zS m0); (case side2 => exact n0.out); (case side3 => exact zS o0); (case side4 => exact p0.out); (case side5 => exact zS q0); (case side6 => exact s0.out); (case side7 => exact zS t0); (case side8 => exact x0.out); (case side9 => exact zS y0); (case side10 => exact A0.out); rintro e J9 ⟨rfl, hb⟩; have y := zK (Kd.R_below (zkR u) hb); have z := zK (Kd.R_below (zkR x) hb); have U := z7 a hb; have X := z8 hb; revert y z U X; clear u x a HB; intro u x a HB) | ((with_reducible refine gd 8 rfl ?_); (try (refine gate_guard (by rfl) ?_; dsimp only)); refine zJ 8 #[.int .i64 0, .int .i64 0, .int .i64 0, .int .i64 0] 52 ?_; intro q hg f8 hbox hb; have y := zK (Kd.R_below (Kd.R_elderB (zkR u) q (Nat.le_of_eq hg.symm)) hb); have z := zK (Kd.R_below (zkR x) hb); have U := z7 a hb; have X := z8 hb; have O0 := zK (hbox); have R0 := z9 hg; have S0 := z9 hg; have T0 := zHH hg a; have U0 := zGG hg a; revert y z U X O0 R0 S0 T0 U0; clear u x a HB; intro u x a HB C0 a0 i2 b0 c0; clear hb hbox hg; have T8 := c0.out; have U8 := b0.out; obtain ⟨o7, p7, q7, s7, t7, x7, y7, A7⟩ := zc4 C0; obtain ⟨B7, C7, D7, E7, F7, G7, I7, J7, L7, M7, N7, O7, R7, S7⟩ := zc7 a; have D0 : 0 ≤ (d0 : Int) := z3; have E0 : d0 < (J.length : Int) := z3; obtain ⟨g0, g2, l⟩ := Kd.at_int E2.out d0 D0 E0; cases g2; have B : g0.block ≠ q := Nat.ne_of_lt (Nat.lt_of_lt_of_le (by have := World.block_lt_of_cell? _ _ l; first | rwa [add_block] at this | exact this) a0.out); have D : g0.block ≠ q := Nat.ne_of_lt (Nat.lt_of_lt_of_le (by have := World.block_lt_of_cell? _ _ l; first | rwa [add_block] at this | exact this) a0.out); have E : g0.block ≠ q := Nat.ne_of_lt (Nat.lt_of_lt_of_le (by have := World.block_lt_of_cell? _ _ l; first | rwa [add_block] at this | exact this) a0.out); have I : g0.block ≠ q := Nat.ne_of_lt (Nat.lt_of_lt_of_le (by have := World.block_lt_of_cell? _ _ l; first | rwa [add_block] at this | exact this) a0.out); (try replace l := zX HB l); replace l := (cell_far (p := ⟨q, 0, none⟩) (by first | (rw [add_block]; exact B) | (show (Addr.add _ _).block ≠ _; rw [add_block]; exact B) | exact B) (.int .i64 F0)).trans l; replace l := (cell_far (p := ⟨q, 1, none⟩) (by first | (rw [add_block]; exact D) | (show (Addr.add _ _).block ≠ _; rw [add_block]; exact D) | exact D) (.int .i64 G0)).trans l; replace l := (cell_far (p := ⟨q, 2, none⟩) (by first | (rw [add_block]; exact E) | (show (Addr.add _ _).block ≠ _; rw [add_block]; exact E) | exact E) (.int .i64 I0)).trans l; replace l := (cell_far (p := ⟨q, 3, none⟩) (by first | (rw [add_block]; exact I) | (show (Addr.add _ _).block ≠ _; rw [add_block]; exact I) | exact I) (.int .i64 J0)).trans l; (try have l2 := fun (n_ : Nat) => (show ((((((f8.drewN n_).setCell ⟨q, 0, none⟩ (.int .i64 F0)).setCell ⟨q, 1, none⟩ (.int .i64 G0)).setCell ⟨q, 2, none⟩ (.int .i64 I0)).setCell ⟨q, 3, none⟩ (.int .i64 J0))).cell? _ = some _ from l)); clear B; clear D; clear E; clear I; replace D0 := eq_true D0; replace E0 := eq_true E0))
   repeat (go_quiet (first | (go_at_call 21; (with_reducible refine (spec_l12Life.calls k3 _ _ A _ _ L _ _ M _ _ O _ _ T d0 F0 G0 I0 J0 false _ ?side1 ?side2 ?side3 ?side4 ?side5 ?side6 ?side7 ?side8 ?side9 ?side10 I2.out).mono ?_); (case side1 => exact zS m0); (case side2 => exact n0.out); (case side3 => exact zS o0); (case side4 => exact p0.out); (case side5 => exact zS q0); (case side6 => exact s0.out); (case side7 => exact zS t0); (case side8 => exact x0.out); (case side9 => exact zS y0); (case side10 => exact A0.out); rintro e J9 ⟨rfl, hb⟩; have y := zK (Kd.R_below (zkR u) hb); have z := zK (Kd.R_below (zkR x) hb); have U := z7 a hb; have X := z8 hb; revert y z U X; clear u x a HB; intro u x a HB) | ((with_reducible refine gd 8 rfl ?_); (try (refine gate_guard (by rfl) ?_; dsimp only)); refine zJ 8 #[.int .i64 0, .int .i64 0, .int .i64 0, .int .i64 0] 52 ?_; intro q hg f8 hbox hb; have y := zK (Kd.R_below (Kd.R_elderB (zkR u) q (Nat.le_of_eq hg.symm)) hb); have z := zK (Kd.R_below (zkR x) hb); have U := z7 a hb; have X := z8 hb; have O0 := zK (hbox); have R0 := z9 hg; have S0 := z9 hg; have T0 := zHH hg a; have U0 := zGG hg a; revert y z U X O0 R0 S0 T0 U0; clear u x a HB; intro u x a HB C0 a0 i2 b0 c0; clear hb hbox hg; have T8 := c0.out; have U8 := b0.out; obtain ⟨o7, p7, q7, s7, t7, x7, y7, A7⟩ := zc4 C0; obtain ⟨B7, C7, D7, E7, F7, G7, I7, J7, L7, M7, N7, O7, R7, S7⟩ := zc7 a; have D0 : 0 ≤ (d0 : Int) := z3; have E0 : d0 < (J.length : Int) := z3; obtain ⟨g0, g2, l⟩ := Kd.at_int E2.out d0 D0 E0; cases g2; have B : g0.block ≠ q := Nat.ne_of_lt (Nat.lt_of_lt_of_le (by have := World.block_lt_of_cell? _ _ l; first | rwa [add_block] at this | exact this) a0.out); have D : g0.block ≠ q := Nat.ne_of_lt (Nat.lt_of_lt_of_le (by have := World.block_lt_of_cell? _ _ l; first | rwa [add_block] at this | exact this) a0.out); have E : g0.block ≠ q := Nat.ne_of_lt (Nat.lt_of_lt_of_le (by have := World.block_lt_of_cell? _ _ l; first | rwa [add_block] at this | exact this) a0.out); have I : g0.block ≠ q := Nat.ne_of_lt (Nat.lt_of_lt_of_le (by have := World.block_lt_of_cell? _ _ l; first | rwa [add_block] at this | exact this) a0.out); (try replace l := zX HB l); replace l := (cell_far (p := ⟨q, 0, none⟩) (by first | (rw [add_block]; exact B) | (show (Addr.add _ _).block ≠ _; rw [add_block]; exact B) | exact B) (.int .i64 F0)).trans l; replace l := (cell_far (p := ⟨q, 1, none⟩) (by first | (rw [add_block]; exact D) | (show (Addr.add _ _).block ≠ _; rw [add_block]; exact D) | exact D) (.int .i64 G0)).trans l; replace l := (cell_far (p := ⟨q, 2, none⟩) (by first | (rw [add_block]; exact E) | (show (Addr.add _ _).block ≠ _; rw [add_block]; exact E) | exact E) (.int .i64 I0)).trans l; replace l := (cell_far (p := ⟨q, 3, none⟩) (by first | (rw [add_block]; exact I) | (show (Addr.add _ _).block ≠ _; rw [add_block]; exact I) | exact I) (.int .i64 J0)).trans l; (try have l2 := fun (n_ : Nat) => (show ((((((f8.drewN n_).setCell ⟨q, 0, none⟩ (.int .i64 F0)).setCell ⟨q, 1, none⟩ (.int .i64 G0)).setCell ⟨q, 2, none⟩ (.int .i64 I0)).setCell ⟨q, 3, none⟩ (.int .i64 J0))).cell? _ = some _ from l)); clear B; clear D; clear E; clear I; replace D0 := eq_true D0; replace E0 := eq_true E0)); try go_wp2_with (first | (go_at_call 21; (with_reducible refine (spec_l12Life.calls k3 _ _ A _ _ L _ _ M _ _ O _ _ T d0 F0 G0 I0 J0 false _ ?side1 ?side2 ?side3 ?side4 ?side5 ?side6 ?side7 ?side8 ?side9 ?side10 I2.out).mono ?_); (case side1 => exact zS m0); (case side2 => exact n0.out); (case side3 => exact zS o0); (case side4 => exact p0.out); (case side5 => exact zS q0); (case side6 => exact s0.out); (case side7 => exact zS t0); (case side8 => exact x0.out); (case side9 => exact zS y0); (case side10 => exact A0.out); rintro e J9 ⟨rfl, hb⟩; have y := zK (Kd.R_below (zkR u) hb); have z := zK (Kd.R_below (zkR x) hb); have U := z7 a hb; have X := z8 hb; revert y z U X; clear u x a HB; intro u x a HB) | ((with_reducible refine gd 8 rfl ?_); (try (refine gate_guard (by rfl) ?_; dsimp only)); refine zJ 8 #[.int .i64 0, .int .i64 0, .int .i64 0, .int .i64 0] 52 ?_; intro q hg f8 hbox hb; have y := zK (Kd.R_below (Kd.R_elderB (zkR u) q (Nat.le_of_eq hg.symm)) hb); have z := zK (Kd.R_below (zkR x) hb); have U := z7 a hb; have X := z8 hb; have O0 := zK (hbox); have R0 := z9 hg; have S0 := z9 hg; have T0 := zHH hg a; have U0 := zGG hg a; revert y z U X O0 R0 S0 T0 U0; clear u x a HB; intro u x a HB C0 a0 i2 b0 c0; clear hb hbox hg; have T8 := c0.out; have U8 := b0.out; obtain ⟨o7, p7, q7, s7, t7, x7, y7, A7⟩ := zc4 C0; obtain ⟨B7, C7, D7, E7, F7, G7, I7, J7, L7, M7, N7, O7, R7, S7⟩ := zc7 a; have D0 : 0 ≤ (d0 : Int) := z3; have E0 : d0 < (J.length : Int) := z3; obtain ⟨g0, g2, l⟩ := Kd.at_int E2.out d0 D0 E0; cases g2; have B : g0.block ≠ q := Nat.ne_of_lt (Nat.lt_of_lt_of_le (by have := World.block_lt_of_cell? _ _ l; first | rwa [add_block] at this | exact this) a0.out); have D : g0.block ≠ q := Nat.ne_of_lt (Nat.lt_of_lt_of_le (by have := World.block_lt_of_cell? _ _ l; first | rwa [add_block] at this | exact this) a0.out); have E : g0.block ≠ q := Nat.ne_of_lt (Nat.lt_of_lt_of_le (by have := World.block_lt_of_cell? _ _ l; first | rwa [add_block] at this | exact this) a0.out); have I : g0.block ≠ q := Nat.ne_of_lt (Nat.lt_of_lt_of_le (by have := World.block_lt_of_cell? _ _ l; first | rwa [add_block] at this | exact this) a0.out); (try replace l := zX HB l); replace l := (cell_far (p := ⟨q, 0, none⟩) (by first | (rw [add_block]; exact B) | (show (Addr.add _ _).block ≠ _; rw [add_block]; exact B) | exact B) (.int .i64 F0)).trans l; replace l := (cell_far (p := ⟨q, 1, none⟩) (by first | (rw [add_block]; exact D) | (show (Addr.add _ _).block ≠ _; rw [add_block]; exact D) | exact D) (.int .i64 G0)).trans l; replace l := (cell_far (p := ⟨q, 2, none⟩) (by first | (rw [add_block]; exact E) | (show (Addr.add _ _).block ≠ _; rw [add_block]; exact E) | exact E) (.int .i64 I0)).trans l; replace l := (cell_far (p := ⟨q, 3, none⟩) (by first | (rw [add_block]; exact I) | (show (Addr.add _ _).block ≠ _; rw [add_block]; exact I) | exact I) (.int .i64 J0)).trans l; (try have l2 := fun (n_ : Nat) => (show ((((((f8.drewN n_).setCell ⟨q, 0, none⟩ (.int .i64 F0)).setCell ⟨q, 1, none⟩ (.int .i64 G0)).setCell ⟨q, 2, none⟩ (.int .i64 I0)).setCell ⟨q, 3, none⟩ (.int .i64 J0))).cell? _ = some _ from l)); clear B; clear D; clear E; clear I; replace D0 := eq_true D0; replace E0 := eq_true E0)))
   go_roundg k3
   case measure => have := p4.out; have := s4.out; have := J8.out; omega
   case rel => exact ⟨(wrap64 (d0 + 1)), zR, H', ⟨by have := p4.out; have := s4.out; have := J8.out; omega⟩, ⟨Kd.R_mono (zlR (Kd.R_mono u.out (fun k_ hk => (⟨hk, hk.2⟩ : _ ∧ k_ ≠ q)))) (fun _ hk => trivial)⟩, ⟨Kd.R_mono (zlR (Kd.R_types x.out C0.out (by decide))) (fun _ hk => trivial)⟩, ⟨zV a⟩, ⟨zB⟩⟩
end Go.Proofs.Ytmcboiffbcnalaa.PFnExactPlanOk
