-- Printed out of the translation by this session's own turned copy of a printer; Lean checks it.
import Derived.Test.YtodfhokndnmdoaaPFnFactorx0
import Derived.Test.YtodfhokndnmdoaaPFnFactorx1
import Derived.Test.YtodfhokndnmdoaaPFnFactorx2
namespace Go.Proofs.Ytodfhokndnmdoaa.PFnFactor
open Go.RowKit Go.Proofs.YtodfhokndnmdoaaW.PrintWords Go.Proofs.YtodfhokndnmdoaaW.PrintLast Go.Proofs.YtodfhokndnmdoaaW.PrintMore
attribute [local go_sem] max2_int min2_int max_two min_two max_three min_three max_four min_four
set_option linter.unusedVariables false
set_option linter.unusedSimpArgs false
set_option maxHeartbeats 8000000
set_option maxRecDepth 100000
def spec_Rate.f (l : Int) (q : Int) (a : Int) (u : Int) (x : Int) : Option (Int) := (spec_SchedOk.f l q a u).bind fun y => (if y = true then ((spec_l5In.f x 0 10000000).bind fun z => (if z = true then (if x < a then ((spec_Near.f (wrap64 (l * (wrap64 (x + 1)))) a).bind fun A => (some A)) else (if x < u then ((spec_Near.f (wrap64 ((wrap64 (l - q)) * (wrap64 (x - a)))) (wrap64 (u - a))).bind fun B => (some (wrap64 (l - B)))) else (some q))) else (some 0))) else (some 0))
theorem spec_Rate.calls (x) (z) (l) (y) (J) (r) (w) (h : spec_Rate.f x z l y J = some r) :
 Calls Try.prog 38 #[.agg #[.int .i64 x, .int .i64 z, .int .i64 l, .int .i64 y], .int .i64 J] w fun e w' => e = .returned (.int .i64 r) ∧ Below w.heap.size w w' := by
 have n2 := Try.underlying33
 have HB := zK (Below.refl w.heap.size w)
 have H : ((spec_SchedOk.f x z l y).bind fun I1 => (if I1 = true then ((spec_l5In.f J 0 10000000).bind fun J1 => (if J1 = true then (if J < l then ((spec_Near.f (wrap64 (x * (wrap64 (J + 1)))) l).bind fun O => (some O)) else (if J < y then ((spec_Near.f (wrap64 ((wrap64 (x - z)) * (wrap64 (J - l)))) (wrap64 (y - l))).bind fun T => (some (wrap64 (x - T)))) else (some z))) else (some 0))) else (some 0))) = some r := h
 clear h
 replace H := z6 H
 obtain ⟨I1, T1, H⟩ := H
 have L := zK T1
 clear T1
 by_cases c4 : I1 = true
 rotate_left
 · replace c4 := Bool.eq_false_iff.mpr c4
   subst c4
   rw [if_neg (show ¬ (false = true) by decide)] at H
   obtain rfl := z5 H
   go_enter Try.func38, Try.ntmps38
   go_wp2_with (first | ((with_reducible refine gd 2 rfl ?_); refine zJ 2 #[.int .i64 x, .int .i64 z, .int .i64 l, .int .i64 y] 33 ?_; intro D hg U1 hbox hb; have q := z8 hb; have u := zK (hbox); have A := z9 hg; have B := z9 hg; revert q u A B; clear HB; intro HB a E I; clear hb hbox hg; obtain ⟨U, X, a0, b0, c0, d0, e0, f0⟩ := zc4 a) | (go_at_call 64; (with_reducible refine (spec_SchedOk.calls x z l y false _ L.out).mono ?_); rintro e V1 ⟨rfl, hb⟩; have q := z7 a hb; have u := z8 hb; revert q u; clear a HB; intro a HB))
   repeat (go_quiet (first | ((with_reducible refine gd 2 rfl ?_); refine zJ 2 #[.int .i64 x, .int .i64 z, .int .i64 l, .int .i64 y] 33 ?_; intro D hg U1 hbox hb; have q := z8 hb; have u := zK (hbox); have A := z9 hg; have B := z9 hg; revert q u A B; clear HB; intro HB a E I; clear hb hbox hg; obtain ⟨U, X, a0, b0, c0, d0, e0, f0⟩ := zc4 a) | (go_at_call 64; (with_reducible refine (spec_SchedOk.calls x z l y false _ L.out).mono ?_); rintro e V1 ⟨rfl, hb⟩; have q := z7 a hb; have u := z8 hb; revert q u; clear a HB; intro a HB)); try go_wp2_with (first | ((with_reducible refine gd 2 rfl ?_); refine zJ 2 #[.int .i64 x, .int .i64 z, .int .i64 l, .int .i64 y] 33 ?_; intro D hg U1 hbox hb; have q := z8 hb; have u := zK (hbox); have A := z9 hg; have B := z9 hg; revert q u A B; clear HB; intro HB a E I; clear hb hbox hg; obtain ⟨U, X, a0, b0, c0, d0, e0, f0⟩ := zc4 a) | (go_at_call 64; (with_reducible refine (spec_SchedOk.calls x z l y false _ L.out).mono ?_); rintro e V1 ⟨rfl, hb⟩; have q := z7 a hb; have u := z8 hb; revert q u; clear a HB; intro a HB)))
   go_ret
   exact ⟨zE, zB⟩
 subst c4
 rw [if_pos rfl] at H
 replace H := z6 H
 obtain ⟨J1, X1, H⟩ := H
 have M := zK X1
 clear X1
 by_cases c6 : J1 = true
 rotate_left
 · replace c6 := Bool.eq_false_iff.mpr c6
   subst c6
   rw [if_neg (show ¬ (false = true) by decide)] at H
   obtain rfl := z5 H
   go_enter Try.func38, Try.ntmps38
   go_wp2_with (first | ((with_reducible refine gd 2 rfl ?_); refine zJ 2 #[.int .i64 x, .int .i64 z, .int .i64 l, .int .i64 y] 33 ?_; intro D hg a2 hbox hb; have q := z8 hb; have u := zK (hbox); have A := z9 hg; have B := z9 hg; revert q u A B; clear HB; intro HB a E I; clear hb hbox hg; obtain ⟨g0, i0, j0, l0, m0, n0, o0, p0⟩ := zc4 a) | (go_at_call 64; (with_reducible refine (spec_SchedOk.calls x z l y true _ L.out).mono ?_); rintro e b2 ⟨rfl, hb⟩; have q := z7 a hb; have u := z8 hb; revert q u; clear a HB; intro a HB) | (go_at_call 63; (with_reducible refine (spec_l5In.calls J 0 10000000 false _ M.out).mono ?_); rintro e w' ⟨rfl, ⟨nd, rfl⟩⟩; (try first | exact ⟨rfl, _, World.drewN_drewN _ _ _⟩ | exact ⟨rfl, _, Eq.trans (World.drewN_drewN _ _ _) (congrArg (World.drewN _) (Nat.add_assoc _ _ _))⟩)))
   repeat (go_quiet (first | ((with_reducible refine gd 2 rfl ?_); refine zJ 2 #[.int .i64 x, .int .i64 z, .int .i64 l, .int .i64 y] 33 ?_; intro D hg a2 hbox hb; have q := z8 hb; have u := zK (hbox); have A := z9 hg; have B := z9 hg; revert q u A B; clear HB; intro HB a E I; clear hb hbox hg; obtain ⟨g0, i0, j0, l0, m0, n0, o0, p0⟩ := zc4 a) | (go_at_call 64; (with_reducible refine (spec_SchedOk.calls x z l y true _ L.out).mono ?_); rintro e b2 ⟨rfl, hb⟩; have q := z7 a hb; have u := z8 hb; revert q u; clear a HB; intro a HB) | (go_at_call 63; (with_reducible refine (spec_l5In.calls J 0 10000000 false _ M.out).mono ?_); rintro e w' ⟨rfl, ⟨nd, rfl⟩⟩; (try first | exact ⟨rfl, _, World.drewN_drewN _ _ _⟩ | exact ⟨rfl, _, Eq.trans (World.drewN_drewN _ _ _) (congrArg (World.drewN _) (Nat.add_assoc _ _ _))⟩))); try go_wp2_with (first | ((with_reducible refine gd 2 rfl ?_); refine zJ 2 #[.int .i64 x, .int .i64 z, .int .i64 l, .int .i64 y] 33 ?_; intro D hg a2 hbox hb; have q := z8 hb; have u := zK (hbox); have A := z9 hg; have B := z9 hg; revert q u A B; clear HB; intro HB a E I; clear hb hbox hg; obtain ⟨g0, i0, j0, l0, m0, n0, o0, p0⟩ := zc4 a) | (go_at_call 64; (with_reducible refine (spec_SchedOk.calls x z l y true _ L.out).mono ?_); rintro e b2 ⟨rfl, hb⟩; have q := z7 a hb; have u := z8 hb; revert q u; clear a HB; intro a HB) | (go_at_call 63; (with_reducible refine (spec_l5In.calls J 0 10000000 false _ M.out).mono ?_); rintro e w' ⟨rfl, ⟨nd, rfl⟩⟩; (try first | exact ⟨rfl, _, World.drewN_drewN _ _ _⟩ | exact ⟨rfl, _, Eq.trans (World.drewN_drewN _ _ _) (congrArg (World.drewN _) (Nat.add_assoc _ _ _))⟩))))
   go_ret
   exact ⟨zE, zB⟩
 subst c6
 rw [if_pos rfl] at H
 by_cases c7 : J < l
 · rw [if_pos c7] at H
   have j2 := z1 c7
   clear c7
   replace H := z6 H
   obtain ⟨O, c2, H⟩ := H
   have A8 := zK c2
   clear c2
   obtain rfl := z5 H
   go_enter Try.func38, Try.ntmps38
   go_wp2_with (first | ((with_reducible refine gd 2 rfl ?_); refine zJ 2 #[.int .i64 x, .int .i64 z, .int .i64 l, .int .i64 y] 33 ?_; intro D hg w9 hbox hb; have q := z8 hb; have u := zK (hbox); have A := z9 hg; have B := z9 hg; revert q u A B; clear HB; intro HB a E I; clear hb hbox hg; obtain ⟨q0, s0, t0, x0, y0, A0, B0, C0⟩ := zc4 a) | (go_at_call 64; (with_reducible refine (spec_SchedOk.calls x z l y true _ L.out).mono ?_); rintro e d2 ⟨rfl, hb⟩; have q := z7 a hb; have u := z8 hb; revert q u; clear a HB; intro a HB) | (go_at_call 63; (with_reducible refine (spec_l5In.calls J 0 10000000 true _ M.out).mono ?_); rintro e w' ⟨rfl, ⟨nd, rfl⟩⟩; (try first | exact ⟨rfl, _, World.drewN_drewN _ _ _⟩ | exact ⟨rfl, _, Eq.trans (World.drewN_drewN _ _ _) (congrArg (World.drewN _) (Nat.add_assoc _ _ _))⟩); obtain ⟨D0, E0, F0, G0, I0, J0, L0, M0⟩ := zc4 a) | (go_at_call 36; (with_reducible refine (spec_Near.calls (wrap64 (x * (wrap64 (J + 1)))) l O _ A8.out).mono ?_); rintro e w' ⟨rfl, ⟨nd, rfl⟩⟩; (try first | exact ⟨rfl, _, World.drewN_drewN _ _ _⟩ | exact ⟨rfl, _, Eq.trans (World.drewN_drewN _ _ _) (congrArg (World.drewN _) (Nat.add_assoc _ _ _))⟩)))
   repeat (go_quiet (first | ((with_reducible refine gd 2 rfl ?_); refine zJ 2 #[.int .i64 x, .int .i64 z, .int .i64 l, .int .i64 y] 33 ?_; intro D hg w9 hbox hb; have q := z8 hb; have u := zK (hbox); have A := z9 hg; have B := z9 hg; revert q u A B; clear HB; intro HB a E I; clear hb hbox hg; obtain ⟨q0, s0, t0, x0, y0, A0, B0, C0⟩ := zc4 a) | (go_at_call 64; (with_reducible refine (spec_SchedOk.calls x z l y true _ L.out).mono ?_); rintro e d2 ⟨rfl, hb⟩; have q := z7 a hb; have u := z8 hb; revert q u; clear a HB; intro a HB) | (go_at_call 63; (with_reducible refine (spec_l5In.calls J 0 10000000 true _ M.out).mono ?_); rintro e w' ⟨rfl, ⟨nd, rfl⟩⟩; (try first | exact ⟨rfl, _, World.drewN_drewN _ _ _⟩ | exact ⟨rfl, _, Eq.trans (World.drewN_drewN _ _ _) (congrArg (World.drewN _) (Nat.add_assoc _ _ _))⟩); obtain ⟨D0, E0, F0, G0, I0, J0, L0, M0⟩ := zc4 a) | (go_at_call 36; (with_reducible refine (spec_Near.calls (wrap64 (x * (wrap64 (J + 1)))) l O _ A8.out).mono ?_); rintro e w' ⟨rfl, ⟨nd, rfl⟩⟩; (try first | exact ⟨rfl, _, World.drewN_drewN _ _ _⟩ | exact ⟨rfl, _, Eq.trans (World.drewN_drewN _ _ _) (congrArg (World.drewN _) (Nat.add_assoc _ _ _))⟩))); try go_wp2_with (first | ((with_reducible refine gd 2 rfl ?_); refine zJ 2 #[.int .i64 x, .int .i64 z, .int .i64 l, .int .i64 y] 33 ?_; intro D hg w9 hbox hb; have q := z8 hb; have u := zK (hbox); have A := z9 hg; have B := z9 hg; revert q u A B; clear HB; intro HB a E I; clear hb hbox hg; obtain ⟨q0, s0, t0, x0, y0, A0, B0, C0⟩ := zc4 a) | (go_at_call 64; (with_reducible refine (spec_SchedOk.calls x z l y true _ L.out).mono ?_); rintro e d2 ⟨rfl, hb⟩; have q := z7 a hb; have u := z8 hb; revert q u; clear a HB; intro a HB) | (go_at_call 63; (with_reducible refine (spec_l5In.calls J 0 10000000 true _ M.out).mono ?_); rintro e w' ⟨rfl, ⟨nd, rfl⟩⟩; (try first | exact ⟨rfl, _, World.drewN_drewN _ _ _⟩ | exact ⟨rfl, _, Eq.trans (World.drewN_drewN _ _ _) (congrArg (World.drewN _) (Nat.add_assoc _ _ _))⟩); obtain ⟨D0, E0, F0, G0, I0, J0, L0, M0⟩ := zc4 a) | (go_at_call 36; (with_reducible refine (spec_Near.calls (wrap64 (x * (wrap64 (J + 1)))) l O _ A8.out).mono ?_); rintro e w' ⟨rfl, ⟨nd, rfl⟩⟩; (try first | exact ⟨rfl, _, World.drewN_drewN _ _ _⟩ | exact ⟨rfl, _, Eq.trans (World.drewN_drewN _ _ _) (congrArg (World.drewN _) (Nat.add_assoc _ _ _))⟩))))
   go_ret
   exact ⟨zE, zB⟩
 rw [if_neg c7] at H
 have j2 := z2 c7
 clear c7
 by_cases N0 : J < y
 rotate_left
 · rw [if_neg N0] at H
   have S1 := z2 N0
   clear N0
   obtain rfl := z5 H
   go_enter Try.func38, Try.ntmps38
   go_wp2_with (first | ((with_reducible refine gd 2 rfl ?_); refine zJ 2 #[.int .i64 x, .int .i64 z, .int .i64 l, .int .i64 y] 33 ?_; intro D hg e2 hbox hb; have q := z8 hb; have u := zK (hbox); have A := z9 hg; have B := z9 hg; revert q u A B; clear HB; intro HB a E I; clear hb hbox hg; obtain ⟨O0, R0, S0, T0, U0, V0, X0, b1⟩ := zc4 a) | (go_at_call 64; (with_reducible refine (spec_SchedOk.calls x z l y true _ L.out).mono ?_); rintro e f2 ⟨rfl, hb⟩; have q := z7 a hb; have u := z8 hb; revert q u; clear a HB; intro a HB) | (go_at_call 63; (with_reducible refine (spec_l5In.calls J 0 10000000 true _ M.out).mono ?_); rintro e w' ⟨rfl, ⟨nd, rfl⟩⟩; (try first | exact ⟨rfl, _, World.drewN_drewN _ _ _⟩ | exact ⟨rfl, _, Eq.trans (World.drewN_drewN _ _ _) (congrArg (World.drewN _) (Nat.add_assoc _ _ _))⟩); obtain ⟨c1, d1, e1, f1, g1, i1, j1, l1⟩ := zc4 a))
   repeat (go_quiet (first | ((with_reducible refine gd 2 rfl ?_); refine zJ 2 #[.int .i64 x, .int .i64 z, .int .i64 l, .int .i64 y] 33 ?_; intro D hg e2 hbox hb; have q := z8 hb; have u := zK (hbox); have A := z9 hg; have B := z9 hg; revert q u A B; clear HB; intro HB a E I; clear hb hbox hg; obtain ⟨O0, R0, S0, T0, U0, V0, X0, b1⟩ := zc4 a) | (go_at_call 64; (with_reducible refine (spec_SchedOk.calls x z l y true _ L.out).mono ?_); rintro e f2 ⟨rfl, hb⟩; have q := z7 a hb; have u := z8 hb; revert q u; clear a HB; intro a HB) | (go_at_call 63; (with_reducible refine (spec_l5In.calls J 0 10000000 true _ M.out).mono ?_); rintro e w' ⟨rfl, ⟨nd, rfl⟩⟩; (try first | exact ⟨rfl, _, World.drewN_drewN _ _ _⟩ | exact ⟨rfl, _, Eq.trans (World.drewN_drewN _ _ _) (congrArg (World.drewN _) (Nat.add_assoc _ _ _))⟩); obtain ⟨c1, d1, e1, f1, g1, i1, j1, l1⟩ := zc4 a)); try go_wp2_with (first | ((with_reducible refine gd 2 rfl ?_); refine zJ 2 #[.int .i64 x, .int .i64 z, .int .i64 l, .int .i64 y] 33 ?_; intro D hg e2 hbox hb; have q := z8 hb; have u := zK (hbox); have A := z9 hg; have B := z9 hg; revert q u A B; clear HB; intro HB a E I; clear hb hbox hg; obtain ⟨O0, R0, S0, T0, U0, V0, X0, b1⟩ := zc4 a) | (go_at_call 64; (with_reducible refine (spec_SchedOk.calls x z l y true _ L.out).mono ?_); rintro e f2 ⟨rfl, hb⟩; have q := z7 a hb; have u := z8 hb; revert q u; clear a HB; intro a HB) | (go_at_call 63; (with_reducible refine (spec_l5In.calls J 0 10000000 true _ M.out).mono ?_); rintro e w' ⟨rfl, ⟨nd, rfl⟩⟩; (try first | exact ⟨rfl, _, World.drewN_drewN _ _ _⟩ | exact ⟨rfl, _, Eq.trans (World.drewN_drewN _ _ _) (congrArg (World.drewN _) (Nat.add_assoc _ _ _))⟩); obtain ⟨c1, d1, e1, f1, g1, i1, j1, l1⟩ := zc4 a)))
   go_ret
   exact ⟨zE, zB⟩
 rw [if_pos N0] at H
 have S1 := z1 N0
 clear N0
 replace H := z6 H
 obtain ⟨T, M1, H⟩ := H
 have N1 := zK M1
 clear M1
 obtain rfl := z5 H
 go_enter Try.func38, Try.ntmps38
 go_wp2_with (first | ((with_reducible refine gd 2 rfl ?_); refine zJ 2 #[.int .i64 x, .int .i64 z, .int .i64 l, .int .i64 y] 33 ?_; intro D hg g2 hbox hb; have q := z8 hb; have u := zK (hbox); have A := z9 hg; have B := z9 hg; revert q u A B; clear HB; intro HB a E I; clear hb hbox hg; obtain ⟨m1, n1, o1, p1, q1, s1, t1, x1⟩ := zc4 a) | (go_at_call 64; (with_reducible refine (spec_SchedOk.calls x z l y true _ L.out).mono ?_); rintro e i2 ⟨rfl, hb⟩; have q := z7 a hb; have u := z8 hb; revert q u; clear a HB; intro a HB) | (go_at_call 63; (with_reducible refine (spec_l5In.calls J 0 10000000 true _ M.out).mono ?_); rintro e w' ⟨rfl, ⟨nd, rfl⟩⟩; (try first | exact ⟨rfl, _, World.drewN_drewN _ _ _⟩ | exact ⟨rfl, _, Eq.trans (World.drewN_drewN _ _ _) (congrArg (World.drewN _) (Nat.add_assoc _ _ _))⟩); obtain ⟨y1, A1, B1, C1, D1, E1, F1, G1⟩ := zc4 a) | (go_at_call 36; (with_reducible refine (spec_Near.calls (wrap64 ((wrap64 (x - z)) * (wrap64 (J - l)))) (wrap64 (y - l)) T _ N1.out).mono ?_); rintro e w' ⟨rfl, ⟨nd, rfl⟩⟩; (try first | exact ⟨rfl, _, World.drewN_drewN _ _ _⟩ | exact ⟨rfl, _, Eq.trans (World.drewN_drewN _ _ _) (congrArg (World.drewN _) (Nat.add_assoc _ _ _))⟩)))
 repeat (go_quiet (first | ((with_reducible refine gd 2 rfl ?_); refine zJ 2 #[.int .i64 x, .int .i64 z, .int .i64 l, .int .i64 y] 33 ?_; intro D hg g2 hbox hb; have q := z8 hb; have u := zK (hbox); have A := z9 hg; have B := z9 hg; revert q u A B; clear HB; intro HB a E I; clear hb hbox hg; obtain ⟨m1, n1, o1, p1, q1, s1, t1, x1⟩ := zc4 a) | (go_at_call 64; (with_reducible refine (spec_SchedOk.calls x z l y true _ L.out).mono ?_); rintro e i2 ⟨rfl, hb⟩; have q := z7 a hb; have u := z8 hb; revert q u; clear a HB; intro a HB) | (go_at_call 63; (with_reducible refine (spec_l5In.calls J 0 10000000 true _ M.out).mono ?_); rintro e w' ⟨rfl, ⟨nd, rfl⟩⟩; (try first | exact ⟨rfl, _, World.drewN_drewN _ _ _⟩ | exact ⟨rfl, _, Eq.trans (World.drewN_drewN _ _ _) (congrArg (World.drewN _) (Nat.add_assoc _ _ _))⟩); obtain ⟨y1, A1, B1, C1, D1, E1, F1, G1⟩ := zc4 a) | (go_at_call 36; (with_reducible refine (spec_Near.calls (wrap64 ((wrap64 (x - z)) * (wrap64 (J - l)))) (wrap64 (y - l)) T _ N1.out).mono ?_); rintro e w' ⟨rfl, ⟨nd, rfl⟩⟩; (try first | exact ⟨rfl, _, World.drewN_drewN _ _ _⟩ | exact ⟨rfl, _, Eq.trans (World.drewN_drewN _ _ _) (congrArg (World.drewN _) (Nat.add_assoc _ _ _))⟩))); try go_wp2_with (first | ((with_reducible refine gd 2 rfl ?_); refine zJ 2 #[.int .i64 x, .int .i64 z, .int .i64 l, .int .i64 y] 33 ?_; intro D hg g2 hbox hb; have q := z8 hb; have u := zK (hbox); have A := z9 hg; have B := z9 hg; revert q u A B; clear HB; intro HB a E I; clear hb hbox hg; obtain ⟨m1, n1, o1, p1, q1, s1, t1, x1⟩ := zc4 a) | (go_at_call 64; (with_reducible refine (spec_SchedOk.calls x z l y true _ L.out).mono ?_); rintro e i2 ⟨rfl, hb⟩; have q := z7 a hb; have u := z8 hb; revert q u; clear a HB; intro a HB) | (go_at_call 63; (with_reducible refine (spec_l5In.calls J 0 10000000 true _ M.out).mono ?_); rintro e w' ⟨rfl, ⟨nd, rfl⟩⟩; (try first | exact ⟨rfl, _, World.drewN_drewN _ _ _⟩ | exact ⟨rfl, _, Eq.trans (World.drewN_drewN _ _ _) (congrArg (World.drewN _) (Nat.add_assoc _ _ _))⟩); obtain ⟨y1, A1, B1, C1, D1, E1, F1, G1⟩ := zc4 a) | (go_at_call 36; (with_reducible refine (spec_Near.calls (wrap64 ((wrap64 (x - z)) * (wrap64 (J - l)))) (wrap64 (y - l)) T _ N1.out).mono ?_); rintro e w' ⟨rfl, ⟨nd, rfl⟩⟩; (try first | exact ⟨rfl, _, World.drewN_drewN _ _ _⟩ | exact ⟨rfl, _, Eq.trans (World.drewN_drewN _ _ _) (congrArg (World.drewN _) (Nat.add_assoc _ _ _))⟩))))
 go_ret
 exact ⟨zE, zB⟩
def spec_l14Clip.f (a : Int) (l : Int) (q : Int) : Option (Int) := if a < l then (some l) else (if a > q then (some q) else (some a))
theorem spec_l14Clip.calls (a) (u) (x) (r) (w) (h : spec_l14Clip.f a u x = some r) :
 Calls Try.prog 40 #[.int .i64 a, .int .i64 u, .int .i64 x] w fun e w' => e = .returned (.int .i64 r) ∧ Drawn0 w w' := by
 have H : (if a < u then (some u) else (if a > x then (some x) else (some a))) = some r := h
 clear h
 by_cases l : a < u
 · rw [if_pos l] at H
   have y := z1 l
   clear l
   obtain rfl := z5 H
   go_enter Try.func40, Try.ntmps40
   go_wp2
   go_ret
   exact ⟨zR, zD⟩
 rw [if_neg l] at H
 have y := z2 l
 clear l
 by_cases q : a > x
 · rw [if_pos q] at H
   have z := z1 q
   clear q
   obtain rfl := z5 H
   go_enter Try.func40, Try.ntmps40
   go_wp2
   go_ret
   exact ⟨zR, zD⟩
 rw [if_neg q] at H
 have z := z2 q
 clear q
 obtain rfl := z5 H
 go_enter Try.func40, Try.ntmps40
 go_wp2
 go_ret
 exact ⟨zR, zD⟩
def spec_l15Bring.f (l : Int) : Option (Int) := (spec_l14Clip.f l (-68719476736) 68719476736).bind fun a => (some a)
theorem spec_l15Bring.calls (l) (r) (w) (h : spec_l15Bring.f l = some r) :
 Calls Try.prog 39 #[.int .i64 l] w fun e w' => e = .returned (.int .i64 r) ∧ Drawn0 w w' := by
 have H : ((spec_l14Clip.f l (-68719476736) 68719476736).bind fun a => (some a)) = some r := h
 clear h
 replace H := z6 H
 obtain ⟨a, q, H⟩ := H
 have u := zK q
 clear q
 obtain rfl := z5 H
 go_enter Try.func39, Try.ntmps39
 go_wp2_with (first | ((with_reducible refine gc 40 rfl ?_); refine zF 4 Try.func40 #[.int .i64 l, .int .i64 (-68719476736), .int .i64 68719476736] rfl zL ?_; (with_reducible refine (spec_l14Clip.calls l (-68719476736) 68719476736 a _ u.out).mono ?_); rintro e w' ⟨rfl, ⟨nd, rfl⟩⟩; refine ⟨_, rfl, ?_⟩))
 go_ret
 exact ⟨zR, zD⟩
end Go.Proofs.Ytodfhokndnmdoaa.PFnFactor
