-- Printed out of the translation by this session's own turned copy of a printer; Lean checks it.
import Derived.Test.YtodfhokndnmdoaaPFnFactorx0
import Derived.Test.YtodfhokndnmdoaaPFnFactorx5
import Derived.Test.YtodfhokndnmdoaaPFnFactorx6
namespace Go.Proofs.Ytodfhokndnmdoaa.PFnFactor
open Go.RowKit Go.Proofs.YtodfhokndnmdoaaW.PrintWords Go.Proofs.YtodfhokndnmdoaaW.PrintLast Go.Proofs.YtodfhokndnmdoaaW.PrintMore
attribute [local go_sem] max2_int min2_int max_two min_two max_three min_three max_four min_four
set_option linter.unusedVariables false
set_option linter.unusedSimpArgs false
set_option maxHeartbeats 8000000
set_option maxRecDepth 100000
def impl_Rate.f (l : Int) (q : Int) (a : Int) (u : Int) (x : Int) : Option (Int) := (impl_SchedOk.f l q a u).bind fun y => (if y = true then ((impl_within.f x 0 10000000).bind fun z => (if z = true then (if x < a then ((impl_Near.f (wrap64 (l * (wrap64 (x + 1)))) a).bind fun A => (some A)) else (if x < u then ((impl_Near.f (wrap64 ((wrap64 (l - q)) * (wrap64 (x - a)))) (wrap64 (u - a))).bind fun B => (some (wrap64 (l - B)))) else (some q))) else (some 0))) else (some 0))
theorem impl_Rate.calls (x) (z) (l) (y) (J) (r) (w) (h : impl_Rate.f x z l y J = some r) :
 Calls Try.prog 50 #[.agg #[.int .i64 x, .int .i64 z, .int .i64 l, .int .i64 y], .int .i64 J] w fun e w' => e = .returned (.int .i64 r) ∧ Below w.heap.size w w' := by
 have n2 := Try.underlying33
 have HB := zK (Below.refl w.heap.size w)
 have H : ((impl_SchedOk.f x z l y).bind fun I1 => (if I1 = true then ((impl_within.f J 0 10000000).bind fun J1 => (if J1 = true then (if J < l then ((impl_Near.f (wrap64 (x * (wrap64 (J + 1)))) l).bind fun O => (some O)) else (if J < y then ((impl_Near.f (wrap64 ((wrap64 (x - z)) * (wrap64 (J - l)))) (wrap64 (y - l))).bind fun T => (some (wrap64 (x - T)))) else (some z))) else (some 0))) else (some 0))) = some r := h
 clear h
 replace H := z6 H
 obtain ⟨I1, T1, H⟩ := H
 have L := zK T1
 clear T1
 by_cases c4 : I1 = true
 rotate_left
 · replace c4 := Bool.eq_false_iff.mpr c4
   subst c4
   rw [if_neg (show ¬ (false = true) by decide)] at H
   obtain rfl := z5 H
   go_enter Try.func50, Try.ntmps50
   go_wp2_with (first | ((with_reducible refine gd 2 rfl ?_); refine zJ 2 #[.int .i64 x, .int .i64 z, .int .i64 l, .int .i64 y] 33 ?_; intro D hg U1 hbox hb; have q := z8 hb; have u := zK (hbox); have A := z9 hg; have B := z9 hg; revert q u A B; clear HB; intro HB a E I; clear hb hbox hg; obtain ⟨U, X, a0, b0, c0, d0, e0, f0⟩ := zc4 a) | (go_at_call 68; (with_reducible refine (impl_SchedOk.calls x z l y false _ L.out).mono ?_); rintro e V1 ⟨rfl, hb⟩; have q := z7 a hb; have u := z8 hb; revert q u; clear a HB; intro a HB))
   repeat (go_quiet (first | ((with_reducible refine gd 2 rfl ?_); refine zJ 2 #[.int .i64 x, .int .i64 z, .int .i64 l, .int .i64 y] 33 ?_; intro D hg U1 hbox hb; have q := z8 hb; have u := zK (hbox); have A := z9 hg; have B := z9 hg; revert q u A B; clear HB; intro HB a E I; clear hb hbox hg; obtain ⟨U, X, a0, b0, c0, d0, e0, f0⟩ := zc4 a) | (go_at_call 68; (with_reducible refine (impl_SchedOk.calls x z l y false _ L.out).mono ?_); rintro e V1 ⟨rfl, hb⟩; have q := z7 a hb; have u := z8 hb; revert q u; clear a HB; intro a HB)); try go_wp2_with (first | ((with_reducible refine gd 2 rfl ?_); refine zJ 2 #[.int .i64 x, .int .i64 z, .int .i64 l, .int .i64 y] 33 ?_; intro D hg U1 hbox hb; have q := z8 hb; have u := zK (hbox); have A := z9 hg; have B := z9 hg; revert q u A B; clear HB; intro HB a E I; clear hb hbox hg; obtain ⟨U, X, a0, b0, c0, d0, e0, f0⟩ := zc4 a) | (go_at_call 68; (with_reducible refine (impl_SchedOk.calls x z l y false _ L.out).mono ?_); rintro e V1 ⟨rfl, hb⟩; have q := z7 a hb; have u := z8 hb; revert q u; clear a HB; intro a HB)))
   go_ret
   exact ⟨zE, zB⟩
 subst c4
 rw [if_pos rfl] at H
 replace H := z6 H
 obtain ⟨J1, X1, H⟩ := H
 have M := zK X1
 clear X1
 by_cases c6 : J1 = true
 rotate_left
 · replace c6 := Bool.eq_false_iff.mpr c6
   subst c6
   rw [if_neg (show ¬ (false = true) by decide)] at H
   obtain rfl := z5 H
   go_enter Try.func50, Try.ntmps50
   go_wp2_with (first | ((with_reducible refine gd 2 rfl ?_); refine zJ 2 #[.int .i64 x, .int .i64 z, .int .i64 l, .int .i64 y] 33 ?_; intro D hg a2 hbox hb; have q := z8 hb; have u := zK (hbox); have A := z9 hg; have B := z9 hg; revert q u A B; clear HB; intro HB a E I; clear hb hbox hg; obtain ⟨g0, i0, j0, l0, m0, n0, o0, p0⟩ := zc4 a) | (go_at_call 68; (with_reducible refine (impl_SchedOk.calls x z l y true _ L.out).mono ?_); rintro e b2 ⟨rfl, hb⟩; have q := z7 a hb; have u := z8 hb; revert q u; clear a HB; intro a HB) | (go_at_call 62; (with_reducible refine (impl_within.calls J 0 10000000 false _ M.out).mono ?_); rintro e w' ⟨rfl, ⟨nd, rfl⟩⟩; (try first | exact ⟨rfl, _, World.drewN_drewN _ _ _⟩ | exact ⟨rfl, _, Eq.trans (World.drewN_drewN _ _ _) (congrArg (World.drewN _) (Nat.add_assoc _ _ _))⟩)))
   repeat (go_quiet (first | ((with_reducible refine gd 2 rfl ?_); refine zJ 2 #[.int .i64 x, .int .i64 z, .int .i64 l, .int .i64 y] 33 ?_; intro D hg a2 hbox hb; have q := z8 hb; have u := zK (hbox); have A := z9 hg; have B := z9 hg; revert q u A B; clear HB; intro HB a E I; clear hb hbox hg; obtain ⟨g0, i0, j0, l0, m0, n0, o0, p0⟩ := zc4 a) | (go_at_call 68; (with_reducible refine (impl_SchedOk.calls x z l y true _ L.out).mono ?_); rintro e b2 ⟨rfl, hb⟩; have q := z7 a hb; have u := z8 hb; revert q u; clear a HB; intro a HB) | (go_at_call 62; (with_reducible refine (impl_within.calls J 0 10000000 false _ M.out).mono ?_); rintro e w' ⟨rfl, ⟨nd, rfl⟩⟩; (try first | exact ⟨rfl, _, World.drewN_drewN _ _ _⟩ | exact ⟨rfl, _, Eq.trans (World.drewN_drewN _ _ _) (congrArg (World.drewN _) (Nat.add_assoc _ _ _))⟩))); try go_wp2_with (first | ((with_reducible refine gd 2 rfl ?_); refine zJ 2 #[.int .i64 x, .int .i64 z, .int .i64 l, .int .i64 y] 33 ?_; intro D hg a2 hbox hb; have q := z8 hb; have u := zK (hbox); have A := z9 hg; have B := z9 hg; revert q u A B; clear HB; intro HB a E I; clear hb hbox hg; obtain ⟨g0, i0, j0, l0, m0, n0, o0, p0⟩ := zc4 a) | (go_at_call 68; (with_reducible refine (impl_SchedOk.calls x z l y true _ L.out).mono ?_); rintro e b2 ⟨rfl, hb⟩; have q := z7 a hb; have u := z8 hb; revert q u; clear a HB; intro a HB) | (go_at_call 62; (with_reducible refine (impl_within.calls J 0 10000000 false _ M.out).mono ?_); rintro e w' ⟨rfl, ⟨nd, rfl⟩⟩; (try first | exact ⟨rfl, _, World.drewN_drewN _ _ _⟩ | exact ⟨rfl, _, Eq.trans (World.drewN_drewN _ _ _) (congrArg (World.drewN _) (Nat.add_assoc _ _ _))⟩))))
   go_ret
   exact ⟨zE, zB⟩
 subst c6
 rw [if_pos rfl] at H
 by_cases c7 : J < l
 · rw [if_pos c7] at H
   have j2 := z1 c7
   clear c7
   replace H := z6 H
   obtain ⟨O, c2, H⟩ := H
   have A8 := zK c2
   clear c2
   obtain rfl := z5 H
   go_enter Try.func50, Try.ntmps50
   go_wp2_with (first | ((with_reducible refine gd 2 rfl ?_); refine zJ 2 #[.int .i64 x, .int .i64 z, .int .i64 l, .int .i64 y] 33 ?_; intro D hg w9 hbox hb; have q := z8 hb; have u := zK (hbox); have A := z9 hg; have B := z9 hg; revert q u A B; clear HB; intro HB a E I; clear hb hbox hg; obtain ⟨q0, s0, t0, x0, y0, A0, B0, C0⟩ := zc4 a) | (go_at_call 68; (with_reducible refine (impl_SchedOk.calls x z l y true _ L.out).mono ?_); rintro e d2 ⟨rfl, hb⟩; have q := z7 a hb; have u := z8 hb; revert q u; clear a HB; intro a HB) | (go_at_call 62; (with_reducible refine (impl_within.calls J 0 10000000 true _ M.out).mono ?_); rintro e w' ⟨rfl, ⟨nd, rfl⟩⟩; (try first | exact ⟨rfl, _, World.drewN_drewN _ _ _⟩ | exact ⟨rfl, _, Eq.trans (World.drewN_drewN _ _ _) (congrArg (World.drewN _) (Nat.add_assoc _ _ _))⟩); obtain ⟨D0, E0, F0, G0, I0, J0, L0, M0⟩ := zc4 a) | (go_at_call 48; (with_reducible refine (impl_Near.calls (wrap64 (x * (wrap64 (J + 1)))) l O _ A8.out).mono ?_); rintro e w' ⟨rfl, ⟨nd, rfl⟩⟩; (try first | exact ⟨rfl, _, World.drewN_drewN _ _ _⟩ | exact ⟨rfl, _, Eq.trans (World.drewN_drewN _ _ _) (congrArg (World.drewN _) (Nat.add_assoc _ _ _))⟩)))
   repeat (go_quiet (first | ((with_reducible refine gd 2 rfl ?_); refine zJ 2 #[.int .i64 x, .int .i64 z, .int .i64 l, .int .i64 y] 33 ?_; intro D hg w9 hbox hb; have q := z8 hb; have u := zK (hbox); have A := z9 hg; have B := z9 hg; revert q u A B; clear HB; intro HB a E I; clear hb hbox hg; obtain ⟨q0, s0, t0, x0, y0, A0, B0, C0⟩ := zc4 a) | (go_at_call 68; (with_reducible refine (impl_SchedOk.calls x z l y true _ L.out).mono ?_); rintro e d2 ⟨rfl, hb⟩; have q := z7 a hb; have u := z8 hb; revert q u; clear a HB; intro a HB) | (go_at_call 62; (with_reducible refine (impl_within.calls J 0 10000000 true _ M.out).mono ?_); rintro e w' ⟨rfl, ⟨nd, rfl⟩⟩; (try first | exact ⟨rfl, _, World.drewN_drewN _ _ _⟩ | exact ⟨rfl, _, Eq.trans (World.drewN_drewN _ _ _) (congrArg (World.drewN _) (Nat.add_assoc _ _ _))⟩); obtain ⟨D0, E0, F0, G0, I0, J0, L0, M0⟩ := zc4 a) | (go_at_call 48; (with_reducible refine (impl_Near.calls (wrap64 (x * (wrap64 (J + 1)))) l O _ A8.out).mono ?_); rintro e w' ⟨rfl, ⟨nd, rfl⟩⟩; (try first | exact ⟨rfl, _, World.drewN_drewN _ _ _⟩ | exact ⟨rfl, _, Eq.trans (World.drewN_drewN _ _ _) (congrArg (World.drewN _) (Nat.add_assoc _ _ _))⟩))); try go_wp2_with (first | ((with_reducible refine gd 2 rfl ?_); refine zJ 2 #[.int .i64 x, .int .i64 z, .int .i64 l, .int .i64 y] 33 ?_; intro D hg w9 hbox hb; have q := z8 hb; have u := zK (hbox); have A := z9 hg; have B := z9 hg; revert q u A B; clear HB; intro HB a E I; clear hb hbox hg; obtain ⟨q0, s0, t0, x0, y0, A0, B0, C0⟩ := zc4 a) | (go_at_call 68; (with_reducible refine (impl_SchedOk.calls x z l y true _ L.out).mono ?_); rintro e d2 ⟨rfl, hb⟩; have q := z7 a hb; have u := z8 hb; revert q u; clear a HB; intro a HB) | (go_at_call 62; (with_reducible refine (impl_within.calls J 0 10000000 true _ M.out).mono ?_); rintro e w' ⟨rfl, ⟨nd, rfl⟩⟩; (try first | exact ⟨rfl, _, World.drewN_drewN _ _ _⟩ | exact ⟨rfl, _, Eq.trans (World.drewN_drewN _ _ _) (congrArg (World.drewN _) (Nat.add_assoc _ _ _))⟩); obtain ⟨D0, E0, F0, G0, I0, J0, L0, M0⟩ := zc4 a) | (go_at_call 48; (with_reducible refine (impl_Near.calls (wrap64 (x * (wrap64 (J + 1)))) l O _ A8.out).mono ?_); rintro e w' ⟨rfl, ⟨nd, rfl⟩⟩; (try first | exact ⟨rfl, _, World.drewN_drewN _ _ _⟩ | exact ⟨rfl, _, Eq.trans (World.drewN_drewN _ _ _) (congrArg (World.drewN _) (Nat.add_assoc _ _ _))⟩))))
   go_ret
   exact ⟨zE, zB⟩
 rw [if_neg c7] at H
 have j2 := z2 c7
 clear c7
 by_cases N0 : J < y
 rotate_left
 · rw [if_neg N0] at H
   have S1 := z2 N0
   clear N0
   obtain rfl := z5 H
   go_enter Try.func50, Try.ntmps50
   go_wp2_with (first | ((with_reducible refine gd 2 rfl ?_); refine zJ 2 #[.int .i64 x, .int .i64 z, .int .i64 l, .int .i64 y] 33 ?_; intro D hg e2 hbox hb; have q := z8 hb; have u := zK (hbox); have A := z9 hg; have B := z9 hg; revert q u A B; clear HB; intro HB a E I; clear hb hbox hg; obtain ⟨O0, R0, S0, T0, U0, V0, X0, b1⟩ := zc4 a) | (go_at_call 68; (with_reducible refine (impl_SchedOk.calls x z l y true _ L.out).mono ?_); rintro e f2 ⟨rfl, hb⟩; have q := z7 a hb; have u := z8 hb; revert q u; clear a HB; intro a HB) | (go_at_call 62; (with_reducible refine (impl_within.calls J 0 10000000 true _ M.out).mono ?_); rintro e w' ⟨rfl, ⟨nd, rfl⟩⟩; (try first | exact ⟨rfl, _, World.drewN_drewN _ _ _⟩ | exact ⟨rfl, _, Eq.trans (World.drewN_drewN _ _ _) (congrArg (World.drewN _) (Nat.add_assoc _ _ _))⟩); obtain ⟨c1, d1, e1, f1, g1, i1, j1, l1⟩ := zc4 a))
   repeat (go_quiet (first | ((with_reducible refine gd 2 rfl ?_); refine zJ 2 #[.int .i64 x, .int .i64 z, .int .i64 l, .int .i64 y] 33 ?_; intro D hg e2 hbox hb; have q := z8 hb; have u := zK (hbox); have A := z9 hg; have B := z9 hg; revert q u A B; clear HB; intro HB a E I; clear hb hbox hg; obtain ⟨O0, R0, S0, T0, U0, V0, X0, b1⟩ := zc4 a) | (go_at_call 68; (with_reducible refine (impl_SchedOk.calls x z l y true _ L.out).mono ?_); rintro e f2 ⟨rfl, hb⟩; have q := z7 a hb; have u := z8 hb; revert q u; clear a HB; intro a HB) | (go_at_call 62; (with_reducible refine (impl_within.calls J 0 10000000 true _ M.out).mono ?_); rintro e w' ⟨rfl, ⟨nd, rfl⟩⟩; (try first | exact ⟨rfl, _, World.drewN_drewN _ _ _⟩ | exact ⟨rfl, _, Eq.trans (World.drewN_drewN _ _ _) (congrArg (World.drewN _) (Nat.add_assoc _ _ _))⟩); obtain ⟨c1, d1, e1, f1, g1, i1, j1, l1⟩ := zc4 a)); try go_wp2_with (first | ((with_reducible refine gd 2 rfl ?_); refine zJ 2 #[.int .i64 x, .int .i64 z, .int .i64 l, .int .i64 y] 33 ?_; intro D hg e2 hbox hb; have q := z8 hb; have u := zK (hbox); have A := z9 hg; have B := z9 hg; revert q u A B; clear HB; intro HB a E I; clear hb hbox hg; obtain ⟨O0, R0, S0, T0, U0, V0, X0, b1⟩ := zc4 a) | (go_at_call 68; (with_reducible refine (impl_SchedOk.calls x z l y true _ L.out).mono ?_); rintro e f2 ⟨rfl, hb⟩; have q := z7 a hb; have u := z8 hb; revert q u; clear a HB; intro a HB) | (go_at_call 62; (with_reducible refine (impl_within.calls J 0 10000000 true _ M.out).mono ?_); rintro e w' ⟨rfl, ⟨nd, rfl⟩⟩; (try first | exact ⟨rfl, _, World.drewN_drewN _ _ _⟩ | exact ⟨rfl, _, Eq.trans (World.drewN_drewN _ _ _) (congrArg (World.drewN _) (Nat.add_assoc _ _ _))⟩); obtain ⟨c1, d1, e1, f1, g1, i1, j1, l1⟩ := zc4 a)))
   go_ret
   exact ⟨zE, zB⟩
 rw [if_pos N0] at H
 have S1 := z1 N0
 clear N0
 replace H := z6 H
 obtain ⟨T, M1, H⟩ := H
 have N1 := zK M1
 clear M1
 obtain rfl := z5 H
 go_enter Try.func50, Try.ntmps50
 go_wp2_with (first | ((with_reducible refine gd 2 rfl ?_); refine zJ 2 #[.int .i64 x, .int .i64 z, .int .i64 l, .int .i64 y] 33 ?_; intro D hg g2 hbox hb; have q := z8 hb; have u := zK (hbox); have A := z9 hg; have B := z9 hg; revert q u A B; clear HB; intro HB a E I; clear hb hbox hg; obtain ⟨m1, n1, o1, p1, q1, s1, t1, x1⟩ := zc4 a) | (go_at_call 68; (with_reducible refine (impl_SchedOk.calls x z l y true _ L.out).mono ?_); rintro e i2 ⟨rfl, hb⟩; have q := z7 a hb; have u := z8 hb; revert q u; clear a HB; intro a HB) | (go_at_call 62; (with_reducible refine (impl_within.calls J 0 10000000 true _ M.out).mono ?_); rintro e w' ⟨rfl, ⟨nd, rfl⟩⟩; (try first | exact ⟨rfl, _, World.drewN_drewN _ _ _⟩ | exact ⟨rfl, _, Eq.trans (World.drewN_drewN _ _ _) (congrArg (World.drewN _) (Nat.add_assoc _ _ _))⟩); obtain ⟨y1, A1, B1, C1, D1, E1, F1, G1⟩ := zc4 a) | (go_at_call 48; (with_reducible refine (impl_Near.calls (wrap64 ((wrap64 (x - z)) * (wrap64 (J - l)))) (wrap64 (y - l)) T _ N1.out).mono ?_); rintro e w' ⟨rfl, ⟨nd, rfl⟩⟩; (try first | exact ⟨rfl, _, World.drewN_drewN _ _ _⟩ | exact ⟨rfl, _, Eq.trans (World.drewN_drewN _ _ _) (congrArg (World.drewN _) (Nat.add_assoc _ _ _))⟩)))
 repeat (go_quiet (first | ((with_reducible refine gd 2 rfl ?_); refine zJ 2 #[.int .i64 x, .int .i64 z, .int .i64 l, .int .i64 y] 33 ?_; intro D hg g2 hbox hb; have q := z8 hb; have u := zK (hbox); have A := z9 hg; have B := z9 hg; revert q u A B; clear HB; intro HB a E I; clear hb hbox hg; obtain ⟨m1, n1, o1, p1, q1, s1, t1, x1⟩ := zc4 a) | (go_at_call 68; (with_reducible refine (impl_SchedOk.calls x z l y true _ L.out).mono ?_); rintro e i2 ⟨rfl, hb⟩; have q := z7 a hb; have u := z8 hb; revert q u; clear a HB; intro a HB) | (go_at_call 62; (with_reducible refine (impl_within.calls J 0 10000000 true _ M.out).mono ?_); rintro e w' ⟨rfl, ⟨nd, rfl⟩⟩; (try first | exact ⟨rfl, _, World.drewN_drewN _ _ _⟩ | exact ⟨rfl, _, Eq.trans (World.drewN_drewN _ _ _) (congrArg (World.drewN _) (Nat.add_assoc _ _ _))⟩); obtain ⟨y1, A1, B1, C1, D1, E1, F1, G1⟩ := zc4 a) | (go_at_call 48; (with_reducible refine (impl_Near.calls (wrap64 ((wrap64 (x - z)) * (wrap64 (J - l)))) (wrap64 (y - l)) T _ N1.out).mono ?_); rintro e w' ⟨rfl, ⟨nd, rfl⟩⟩; (try first | exact ⟨rfl, _, World.drewN_drewN _ _ _⟩ | exact ⟨rfl, _, Eq.trans (World.drewN_drewN _ _ _) (congrArg (World.drewN _) (Nat.add_assoc _ _ _))⟩))); try go_wp2_with (first | ((with_reducible refine gd 2 rfl ?_); refine zJ 2 #[.int .i64 x, .int .i64 z, .int .i64 l, .int .i64 y] 33 ?_; intro D hg g2 hbox hb; have q := z8 hb; have u := zK (hbox); have A := z9 hg; have B := z9 hg; revert q u A B; clear HB; intro HB a E I; clear hb hbox hg; obtain ⟨m1, n1, o1, p1, q1, s1, t1, x1⟩ := zc4 a) | (go_at_call 68; (with_reducible refine (impl_SchedOk.calls x z l y true _ L.out).mono ?_); rintro e i2 ⟨rfl, hb⟩; have q := z7 a hb; have u := z8 hb; revert q u; clear a HB; intro a HB) | (go_at_call 62; (with_reducible refine (impl_within.calls J 0 10000000 true _ M.out).mono ?_); rintro e w' ⟨rfl, ⟨nd, rfl⟩⟩; (try first | exact ⟨rfl, _, World.drewN_drewN _ _ _⟩ | exact ⟨rfl, _, Eq.trans (World.drewN_drewN _ _ _) (congrArg (World.drewN _) (Nat.add_assoc _ _ _))⟩); obtain ⟨y1, A1, B1, C1, D1, E1, F1, G1⟩ := zc4 a) | (go_at_call 48; (with_reducible refine (impl_Near.calls (wrap64 ((wrap64 (x - z)) * (wrap64 (J - l)))) (wrap64 (y - l)) T _ N1.out).mono ?_); rintro e w' ⟨rfl, ⟨nd, rfl⟩⟩; (try first | exact ⟨rfl, _, World.drewN_drewN _ _ _⟩ | exact ⟨rfl, _, Eq.trans (World.drewN_drewN _ _ _) (congrArg (World.drewN _) (Nat.add_assoc _ _ _))⟩))))
 go_ret
 exact ⟨zE, zB⟩
def impl_bring_int.f (a : Int) (l : Int) (q : Int) : Option (Int) := some (mx l (mn a q))
theorem impl_bring_int.calls (l) (a) (q) (r) (w) (h : impl_bring_int.f l a q = some r) :
 Calls Try.prog 52 #[.int .i64 l, .int .i64 a, .int .i64 q] w fun e w' => e = .returned (.int .i64 r) ∧ Below w.heap.size w w' := by
 have HB := zK (Below.refl w.heap.size w)
 have H : (some (mx a (mn l q))) = some r := h
 clear h
 obtain ⟨ji4, hji4⟩ : ∃ j_ : Int, (mn l q) = j_ := ⟨_, rfl⟩
 replace H : (some (mx a (ji4))) = some r := by first | (rw [hji4] at H; exact H) | (simp only [hji4] at H ⊢; exact H)
 have hji4_ : (if q < l then q else l) = ji4 := hji4
 obtain ⟨ji5, hji5⟩ : ∃ j_ : Int, (mx a (ji4)) = j_ := ⟨_, rfl⟩
 replace H : (some ji5) = some r := by first | (rw [hji5] at H; exact H) | (simp only [hji5] at H ⊢; exact H)
 have hji5_ : (if a < (ji4) then (ji4) else a) = ji5 := hji5
 obtain rfl := z5 H
 go_enter Try.func52, Try.ntmps52
 go_wp2
 go_ret
 exact ⟨by first | rfl | (simp [errW_none, errW_some] <;> rfl) | (simp only [← hji4, ← hji5]; first | rfl | (simp [errW_none, errW_some] <;> rfl)) | (simp [*, errW_none, errW_some] <;> rfl), zB⟩
def impl_heavyMover_move.f (l : Int) (x : Int) (y : Int) (z : Int) (A : Int) (B : Int) : Option (Int × Int × Int) := (impl_Near.f (wrap64 (l * A)) 65536).bind fun q => ((impl_bring_int.f (wrap64 (q + y)) (-4294967296) 4294967296).bind fun a => ((impl_Near.f (wrap64 (x * a)) 65536).bind fun u => (some (wrap64 (z - u), a, B))))
theorem impl_heavyMover_move.calls (a) (y) (z) (M) (A) (O) (r1) (r2) (r3) (w) (h : impl_heavyMover_move.f a y z M A O = some (r1, r2, r3)) :
 Calls Try.prog 95 #[.agg #[.int .i64 a], .int .i64 y, .int .i64 z, .int .i64 M, .int .i64 A, .int .i64 O] w fun e w' => e = .returned (.tuple #[.int .i64 r1, .int .i64 r2, .int .i64 r3]) ∧ Below w.heap.size w w' := by
 have e0 := Try.underlying88
 have HB := zK (Below.refl w.heap.size w)
 have H : ((impl_Near.f (wrap64 (a * A)) 65536).bind fun u => ((impl_bring_int.f (wrap64 (u + z)) (-4294967296) 4294967296).bind fun q => ((impl_Near.f (wrap64 (y * q)) 65536).bind fun x => (some (wrap64 (M - x), q, O))))) = some (r1, r2, r3) := h
 clear h
 replace H := z6 H
 obtain ⟨u, I, H⟩ := H
 have A7 := zK I
 clear I
 replace H := z6 H
 obtain ⟨q, J, H⟩ := H
 have A8 := zK J
 clear J
 replace H := z6 H
 obtain ⟨x, L, H⟩ := H
 have A9 := zK L
 clear L
 simp only [Option.some.injEq, Prod.mk.injEq] at H
 obtain ⟨rfl, rfl, rfl⟩ := H
 go_enter Try.func95, Try.ntmps95
 go_wp2_with (first | ((with_reducible refine gd 6 rfl ?_); refine zJ 6 #[.int .i64 a] 88 ?_; intro E hg X hbox hb; have B := z8 hb; have D := zK (hbox); have a0 := z9 hg; have b0 := z9 hg; revert B D a0 b0; clear HB; intro HB l c0 d0; clear hb hbox hg; have T : X.cell? ⟨E, 0, none⟩ = some (.int .i64 a) := zy l 0; have U := zf l.out 0) | ((with_reducible refine gc 48 rfl ?_); refine zF 19 Try.func48 #[.int .i64 (wrap64 (a * A)), .int .i64 65536] rfl zL ?_; (with_reducible refine (impl_Near.calls (wrap64 (a * A)) 65536 u _ A7.out).mono ?_); rintro e w' ⟨rfl, ⟨nd, rfl⟩⟩; refine ⟨_, rfl, ?_⟩) | ((with_reducible refine gc 52 rfl ?_); refine zF 22 Try.func52 #[.int .i64 (wrap64 (u + z)), .int .i64 (-4294967296), .int .i64 4294967296] rfl zL ?_; (with_reducible refine (impl_bring_int.calls (wrap64 (u + z)) (-4294967296) 4294967296 q _ A8.out).mono ?_); rintro e j0 ⟨rfl, hb⟩; refine ⟨_, rfl, ?_⟩; have B := z7 l hb; have D := z8 hb; revert B D; clear l HB; intro l HB) | ((with_reducible refine gc 48 rfl ?_); refine zF 27 Try.func48 #[.int .i64 (wrap64 (y * q)), .int .i64 65536] rfl zL ?_; (with_reducible refine (impl_Near.calls (wrap64 (y * q)) 65536 x _ A9.out).mono ?_); rintro e w' ⟨rfl, ⟨nd, rfl⟩⟩; refine ⟨_, rfl, ?_⟩))
 go_ret3
 exact ⟨zE, zB⟩
def impl_evenMover_move.f (k : Nat) (a : Int) (l : Int) (x : Int) (D : Int) (y : Int) (E : Int) (I : Int) (J : Int) : Option (Int × Int × Int) := (impl_Near.f (wrap64 ((wrap64 (a * I)) + (wrap64 ((wrap64 (65536 - a)) * y)))) 65536).bind fun q => ((impl_Near.f (wrap64 (y * y)) 65536).bind fun z => ((impl_Near.f (wrap64 ((wrap64 (l * J)) + (wrap64 ((wrap64 (65536 - l)) * z)))) 65536).bind fun u => ((impl_Root.f k (wrap64 (65536 * u))).bind fun A => ((impl_Near.f (wrap64 (D * q)) (wrap64 (A + x))).bind fun B => (some (wrap64 (E - B), q, u))))))
theorem impl_evenMover_move.calls (k) (a) (l) (q) (a1) (A) (a3) (a4) (a5) (r1) (r2) (r3) (w) (h : impl_evenMover_move.f k a l q a1 A a3 a4 a5 = some (r1, r2, r3)) :
 Calls Try.prog 96 #[.agg #[.int .i64 a, .int .i64 l, .int .i64 q], .int .i64 a1, .int .i64 A, .int .i64 a3, .int .i64 a4, .int .i64 a5] w fun e w' => e = .returned (.tuple #[.int .i64 r1, .int .i64 r2, .int .i64 r3]) ∧ Below w.heap.size w w' := by
 have A0 := Try.underlying90
 have HB := zK (Below.refl w.heap.size w)
 have H : ((impl_Near.f (wrap64 ((wrap64 (a * a4)) + (wrap64 ((wrap64 (65536 - a)) * A)))) 65536).bind fun u => ((impl_Near.f (wrap64 (A * A)) 65536).bind fun y => ((impl_Near.f (wrap64 ((wrap64 (l * a5)) + (wrap64 ((wrap64 (65536 - l)) * y)))) 65536).bind fun x => ((impl_Root.f k (wrap64 (65536 * x))).bind fun z => ((impl_Near.f (wrap64 (a1 * u)) (wrap64 (z + q))).bind fun D => (some (wrap64 (a3 - D), u, x))))))) = some (r1, r2, r3) := h
 clear h
 replace H := z6 H
 obtain ⟨u, n0, H⟩ := H
 have A7 := zK n0
 clear n0
 replace H := z6 H
 obtain ⟨y, o0, H⟩ := H
 have A8 := zK o0
 clear o0
 replace H := z6 H
 obtain ⟨x, p0, H⟩ := H
 have A9 := zK p0
 clear p0
 replace H := z6 H
 obtain ⟨z, i0, H⟩ := H
 have j0 := zK i0
 clear i0
 replace H := z6 H
 obtain ⟨D, l0, H⟩ := H
 have m0 := zK l0
 clear l0
 simp only [Option.some.injEq, Prod.mk.injEq] at H
 obtain ⟨rfl, rfl, rfl⟩ := H
 go_enter Try.func96, Try.ntmps96
 go_wp2_with (first | ((with_reducible refine gd 6 rfl ?_); refine zJ 6 #[.int .i64 a, .int .i64 l, .int .i64 q] 90 ?_; intro b0 hg q0 hbox hb; have T := z8 hb; have U := zK (hbox); have X := z9 hg; have a0 := z9 hg; revert T U X a0; clear HB; intro HB B c0 d0; clear hb hbox hg; obtain ⟨E, I, J, L, M, O⟩ := zc3 B) | (go_at_call 48; (with_reducible refine (impl_Near.calls (wrap64 ((wrap64 (a * a4)) + (wrap64 ((wrap64 (65536 - a)) * A)))) 65536 u _ A7.out).mono ?_); rintro e w' ⟨rfl, ⟨nd, rfl⟩⟩; (try first | exact ⟨rfl, _, World.drewN_drewN _ _ _⟩ | exact ⟨rfl, _, Eq.trans (World.drewN_drewN _ _ _) (congrArg (World.drewN _) (Nat.add_assoc _ _ _))⟩)) | (go_at_call 48; (with_reducible refine (impl_Near.calls (wrap64 (A * A)) 65536 y _ A8.out).mono ?_); rintro e w' ⟨rfl, ⟨nd, rfl⟩⟩; (try first | exact ⟨rfl, _, World.drewN_drewN _ _ _⟩ | exact ⟨rfl, _, Eq.trans (World.drewN_drewN _ _ _) (congrArg (World.drewN _) (Nat.add_assoc _ _ _))⟩)) | (go_at_call 48; (with_reducible refine (impl_Near.calls (wrap64 ((wrap64 (l * a5)) + (wrap64 ((wrap64 (65536 - l)) * y)))) 65536 x _ A9.out).mono ?_); rintro e w' ⟨rfl, ⟨nd, rfl⟩⟩; (try first | exact ⟨rfl, _, World.drewN_drewN _ _ _⟩ | exact ⟨rfl, _, Eq.trans (World.drewN_drewN _ _ _) (congrArg (World.drewN _) (Nat.add_assoc _ _ _))⟩)) | (go_at_call 79; (with_reducible refine (impl_Root.calls k (wrap64 (65536 * x)) z _ j0.out).mono ?_); rintro e w' ⟨rfl, ⟨nd, rfl⟩⟩; (try first | exact ⟨rfl, _, World.drewN_drewN _ _ _⟩ | exact ⟨rfl, _, Eq.trans (World.drewN_drewN _ _ _) (congrArg (World.drewN _) (Nat.add_assoc _ _ _))⟩)) | (go_at_call 48; (with_reducible refine (impl_Near.calls (wrap64 (a1 * u)) (wrap64 (z + q)) D _ m0.out).mono ?_); rintro e w' ⟨rfl, ⟨nd, rfl⟩⟩; (try first | exact ⟨rfl, _, World.drewN_drewN _ _ _⟩ | exact ⟨rfl, _, Eq.trans (World.drewN_drewN _ _ _) (congrArg (World.drewN _) (Nat.add_assoc _ _ _))⟩)))
 repeat (go_quiet (first | ((with_reducible refine gd 6 rfl ?_); refine zJ 6 #[.int .i64 a, .int .i64 l, .int .i64 q] 90 ?_; intro b0 hg q0 hbox hb; have T := z8 hb; have U := zK (hbox); have X := z9 hg; have a0 := z9 hg; revert T U X a0; clear HB; intro HB B c0 d0; clear hb hbox hg; obtain ⟨E, I, J, L, M, O⟩ := zc3 B) | (go_at_call 48; (with_reducible refine (impl_Near.calls (wrap64 ((wrap64 (a * a4)) + (wrap64 ((wrap64 (65536 - a)) * A)))) 65536 u _ A7.out).mono ?_); rintro e w' ⟨rfl, ⟨nd, rfl⟩⟩; (try first | exact ⟨rfl, _, World.drewN_drewN _ _ _⟩ | exact ⟨rfl, _, Eq.trans (World.drewN_drewN _ _ _) (congrArg (World.drewN _) (Nat.add_assoc _ _ _))⟩)) | (go_at_call 48; (with_reducible refine (impl_Near.calls (wrap64 (A * A)) 65536 y _ A8.out).mono ?_); rintro e w' ⟨rfl, ⟨nd, rfl⟩⟩; (try first | exact ⟨rfl, _, World.drewN_drewN _ _ _⟩ | exact ⟨rfl, _, Eq.trans (World.drewN_drewN _ _ _) (congrArg (World.drewN _) (Nat.add_assoc _ _ _))⟩)) | (go_at_call 48; (with_reducible refine (impl_Near.calls (wrap64 ((wrap64 (l * a5)) + (wrap64 ((wrap64 (65536 - l)) * y)))) 65536 x _ A9.out).mono ?_); rintro e w' ⟨rfl, ⟨nd, rfl⟩⟩; (try first | exact ⟨rfl, _, World.drewN_drewN _ _ _⟩ | exact ⟨rfl, _, Eq.trans (World.drewN_drewN _ _ _) (congrArg (World.drewN _) (Nat.add_assoc _ _ _))⟩)) | (go_at_call 79; (with_reducible refine (impl_Root.calls k (wrap64 (65536 * x)) z _ j0.out).mono ?_); rintro e w' ⟨rfl, ⟨nd, rfl⟩⟩; (try first | exact ⟨rfl, _, World.drewN_drewN _ _ _⟩ | exact ⟨rfl, _, Eq.trans (World.drewN_drewN _ _ _) (congrArg (World.drewN _) (Nat.add_assoc _ _ _))⟩)) | (go_at_call 48; (with_reducible refine (impl_Near.calls (wrap64 (a1 * u)) (wrap64 (z + q)) D _ m0.out).mono ?_); rintro e w' ⟨rfl, ⟨nd, rfl⟩⟩; (try first | exact ⟨rfl, _, World.drewN_drewN _ _ _⟩ | exact ⟨rfl, _, Eq.trans (World.drewN_drewN _ _ _) (congrArg (World.drewN _) (Nat.add_assoc _ _ _))⟩))); try go_wp2_with (first | ((with_reducible refine gd 6 rfl ?_); refine zJ 6 #[.int .i64 a, .int .i64 l, .int .i64 q] 90 ?_; intro b0 hg q0 hbox hb; have T := z8 hb; have U := zK (hbox); have X := z9 hg; have a0 := z9 hg; revert T U X a0; clear HB; intro HB B c0 d0; clear hb hbox hg; obtain ⟨E, I, J, L, M, O⟩ := zc3 B) | (go_at_call 48; (with_reducible refine (impl_Near.calls (wrap64 ((wrap64 (a * a4)) + (wrap64 ((wrap64 (65536 - a)) * A)))) 65536 u _ A7.out).mono ?_); rintro e w' ⟨rfl, ⟨nd, rfl⟩⟩; (try first | exact ⟨rfl, _, World.drewN_drewN _ _ _⟩ | exact ⟨rfl, _, Eq.trans (World.drewN_drewN _ _ _) (congrArg (World.drewN _) (Nat.add_assoc _ _ _))⟩)) | (go_at_call 48; (with_reducible refine (impl_Near.calls (wrap64 (A * A)) 65536 y _ A8.out).mono ?_); rintro e w' ⟨rfl, ⟨nd, rfl⟩⟩; (try first | exact ⟨rfl, _, World.drewN_drewN _ _ _⟩ | exact ⟨rfl, _, Eq.trans (World.drewN_drewN _ _ _) (congrArg (World.drewN _) (Nat.add_assoc _ _ _))⟩)) | (go_at_call 48; (with_reducible refine (impl_Near.calls (wrap64 ((wrap64 (l * a5)) + (wrap64 ((wrap64 (65536 - l)) * y)))) 65536 x _ A9.out).mono ?_); rintro e w' ⟨rfl, ⟨nd, rfl⟩⟩; (try first | exact ⟨rfl, _, World.drewN_drewN _ _ _⟩ | exact ⟨rfl, _, Eq.trans (World.drewN_drewN _ _ _) (congrArg (World.drewN _) (Nat.add_assoc _ _ _))⟩)) | (go_at_call 79; (with_reducible refine (impl_Root.calls k (wrap64 (65536 * x)) z _ j0.out).mono ?_); rintro e w' ⟨rfl, ⟨nd, rfl⟩⟩; (try first | exact ⟨rfl, _, World.drewN_drewN _ _ _⟩ | exact ⟨rfl, _, Eq.trans (World.drewN_drewN _ _ _) (congrArg (World.drewN _) (Nat.add_assoc _ _ _))⟩)) | (go_at_call 48; (with_reducible refine (impl_Near.calls (wrap64 (a1 * u)) (wrap64 (z + q)) D _ m0.out).mono ?_); rintro e w' ⟨rfl, ⟨nd, rfl⟩⟩; (try first | exact ⟨rfl, _, World.drewN_drewN _ _ _⟩ | exact ⟨rfl, _, Eq.trans (World.drewN_drewN _ _ _) (congrArg (World.drewN _) (Nat.add_assoc _ _ _))⟩))))
 go_ret3
 exact ⟨zE, zB⟩
end Go.Proofs.Ytodfhokndnmdoaa.PFnFactor
