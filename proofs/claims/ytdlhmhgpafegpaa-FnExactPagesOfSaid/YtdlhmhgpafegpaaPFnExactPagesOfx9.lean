-- Printed out of the translation by this session's own turned copy of a printer; Lean checks it.
import Derived.Test.YtdlhmhgpafegpaaPFnExactPagesOfx0
import Derived.Test.YtdlhmhgpafegpaaPFnExactPagesOfx1
import Derived.Test.YtdlhmhgpafegpaaPFnExactPagesOfx3
import Derived.Test.YtdlhmhgpafegpaaPFnExactPagesOfx4
import Derived.Test.YtdlhmhgpafegpaaPFnExactPagesOfx8
namespace Go.Proofs.Ytdlhmhgpafegpaa.PFnExactPagesOf
open Go.RowKit Go.Proofs.YtdlhmhgpafegpaaW.PrintWords Go.Proofs.YtdlhmhgpafegpaaW.PrintLast Go.Proofs.YtdlhmhgpafegpaaW.PrintMore
attribute [local go_sem] max2_int min2_int max_two min_two max_three min_three max_four min_four
set_option linter.unusedVariables false
set_option linter.unusedSimpArgs false
set_option maxHeartbeats 8000000
set_option maxRecDepth 100000
def impl_ChoiceOk.f (l : Int) (q : Int) (u : Int) : Option (Bool) := (impl_within.f l 1 2).bind fun y => (if y = true then ((impl_within.f q 0 64).bind fun z => (if z = true then ((impl_within.f u 1 65536).bind fun A => (some A)) else (some false))) else (some false))
theorem impl_ChoiceOk.calls (l) (q) (u) (r : Bool) (w) (h : impl_ChoiceOk.f l q u = some r) :
 Calls Try.prog 40 #[.agg #[.int .i64 l, .int .i64 q, .int .i64 u]] w fun e w' => e = .returned (.bool r) ∧ Below w.heap.size w w' := by
 have l0 := Try.underlying39
 have HB := zK (Below.refl w.heap.size w)
 have H : ((impl_within.f l 1 2).bind fun y => (if y = true then ((impl_within.f q 0 64).bind fun z => (if z = true then ((impl_within.f u 1 65536).bind fun A => (some A)) else (some false))) else (some false))) = some r := h
 clear h
 replace H := z6 H
 obtain ⟨y, J, H⟩ := H
 have A2 := zK J
 clear J
 rcases zN (y = true) with B | B
 replace B := Bool.eq_false_iff.mpr B
 subst B
 rw [if_neg (show ¬ (false = true) by decide)] at H
 obtain rfl := z5 H
 rotate_left
 subst B
 rw [if_pos rfl] at H
 replace H := z6 H
 obtain ⟨z, L, H⟩ := H
 have A4 := zK L
 clear L
 rcases zN (z = true) with E | E
 replace E := Bool.eq_false_iff.mpr E
 subst E
 rw [if_neg (show ¬ (false = true) by decide)] at H
 obtain rfl := z5 H
 rotate_left
 subst E
 rw [if_pos rfl] at H
 replace H := z6 H
 obtain ⟨A, M, H⟩ := H
 have A6 := zK M
 clear M
 obtain rfl := z5 H
 all_goals go_enter Try.func40, Try.ntmps40
 all_goals go_wp2_with (first | ((with_reducible refine gd 1 rfl ?_); refine zJ 1 #[.int .i64 l, .int .i64 q, .int .i64 u] 39 ?_; intro g0 hg w7 hbox hb; have O := z8 hb; have T := zK (hbox); have U := z9 hg; have X := z9 hg; revert O T U X; clear HB; intro HB I i0 j0; clear hb hbox hg; obtain ⟨a0, b0, c0, d0, e0, f0⟩ := zc3 I) | ((with_reducible refine gc 32 rfl ?_); refine zF 5 Try.func32 #[.int .i64 l, .int .i64 1, .int .i64 2] rfl zL ?_; (with_reducible refine (impl_within.calls l 1 2 _ _ A2.out).mono ?_); rintro e w' ⟨rfl, ⟨nd, rfl⟩⟩; refine ⟨_, rfl, ?_⟩) | (go_at_call 32; (with_reducible refine (impl_within.calls q 0 64 _ _ A4.out).mono ?_); rintro e w' ⟨rfl, ⟨nd, rfl⟩⟩) | (go_at_call 32; (with_reducible refine (impl_within.calls u 1 65536 A _ A6.out).mono ?_); rintro e w' ⟨rfl, ⟨nd, rfl⟩⟩))
 all_goals go_ret
 all_goals exact ⟨zE, zB⟩
def impl_HouseOk.f (k : Nat) (l : Int) (q : List (S57)) (u : Int) (y : Int) (z : Int) (A : Int) (B : Int) (E : Int) : Option (Bool) := (impl_LmOk.f k l q).bind fun I => (if I = true then ((impl_ChoiceOk.f u y z).bind fun J => (if J = true then ((impl_within.f A 1 1000).bind fun L => (if L = true then ((impl_within.f B 1 100).bind fun M => (if M = true then ((impl_within.f E 1 100).bind fun O => (some O)) else (some false))) else (some false))) else (some false))) else (some false))
theorem impl_HouseOk.calls (k) (u) (J) (L) (q : List (S57)) (y) (z) (A) (B) (E) (I) (r : Bool) (w) (c0 : Kd.C k57 w J q.length q) (d0 : q.length ≤ L) (h : impl_HouseOk.f k u q y z A B E I = some r) :
 Calls Try.prog 15 #[.agg #[.int .i64 u, .slice J q.length L, .int .i64 y, .int .i64 z, .int .i64 A, .int .i64 B, .int .i64 E, .int .i64 I]] w fun e w' => e = .returned (.bool r) ∧ Below w.heap.size w w' := by
 have O1 := Try.underlying41
 have R1 := Try.underlying29
 have S1 := Try.underlying39
 have l0 := zK c0
 have m0 := zK d0
 clear c0 d0
 have HB := zK (Below.refl w.heap.size w)
 have H : ((impl_LmOk.f k u q).bind fun T => (if T = true then ((impl_ChoiceOk.f y z A).bind fun U => (if U = true then ((impl_within.f B 1 1000).bind fun X => (if X = true then ((impl_within.f E 1 100).bind fun a0 => (if a0 = true then ((impl_within.f I 1 100).bind fun b0 => (some b0)) else (some false))) else (some false))) else (some false))) else (some false))) = some r := h
 clear h
 replace H := z6 H
 obtain ⟨T, n0, H⟩ := H
 have A2 := zK n0
 clear n0
 rcases zN (T = true) with c3 | c3
 replace c3 := Bool.eq_false_iff.mpr c3
 subst c3
 rw [if_neg (show ¬ (false = true) by decide)] at H
 obtain rfl := z5 H
 rotate_left
 subst c3
 rw [if_pos rfl] at H
 replace H := z6 H
 obtain ⟨U, o0, H⟩ := H
 have A4 := zK o0
 clear o0
 rcases zN (U = true) with c5 | c5
 replace c5 := Bool.eq_false_iff.mpr c5
 subst c5
 rw [if_neg (show ¬ (false = true) by decide)] at H
 obtain rfl := z5 H
 rotate_left
 subst c5
 rw [if_pos rfl] at H
 replace H := z6 H
 obtain ⟨X, p0, H⟩ := H
 have A6 := zK p0
 clear p0
 rcases zN (X = true) with c7 | c7
 replace c7 := Bool.eq_false_iff.mpr c7
 subst c7
 rw [if_neg (show ¬ (false = true) by decide)] at H
 obtain rfl := z5 H
 rotate_left
 subst c7
 rw [if_pos rfl] at H
 replace H := z6 H
 obtain ⟨a0, q0, H⟩ := H
 have A8 := zK q0
 clear q0
 rcases zN (a0 = true) with c9 | c9
 replace c9 := Bool.eq_false_iff.mpr c9
 subst c9
 rw [if_neg (show ¬ (false = true) by decide)] at H
 obtain rfl := z5 H
 rotate_left
 subst c9
 rw [if_pos rfl] at H
 replace H := z6 H
 obtain ⟨b0, j0, H⟩ := H
 have G1 := zK j0
 clear j0
 obtain rfl := z5 H
 all_goals go_enter Try.func15, Try.ntmps15
 all_goals go_wp2_with (first | ((with_reducible refine gd 1 rfl ?_); refine zJ 1 #[.int .i64 u, .slice J q.length L, .int .i64 y, .int .i64 z, .int .i64 A, .int .i64 B, .int .i64 E, .int .i64 I] 41 ?_; intro L1 hg a2 hbox hb; have M := z8 hb; have O := zK (hbox); have I1 := z9 hg; have J1 := z9 hg; revert M O I1 J1; clear HB; intro HB l M1 N1; clear hb hbox hg; obtain ⟨s0, t0, x0, y0, A0, B0, C0, D0, E0, F0, G0, I0, J0, L0, M0, N0⟩ := zc8 l) | ((with_reducible refine gc 10 rfl ?_); refine zF 5 Try.func10 #[.agg #[.int .i64 u, .slice J q.length L]] rfl zL ?_; refine (impl_LmOk.calls k u _ _ q _ _ (zS l0) m0.out A2.out).mono ?_; rintro e b2 ⟨rfl, hb⟩; refine ⟨_, rfl, ?_⟩; have M := z7 l hb; have O := z8 hb; revert M O; clear l HB; intro l HB; obtain ⟨O0, R0, S0, T0, U0, V0, X0, a1, b1, c1, d1, e1, f1, g1, i1, j1⟩ := zc8 l) | (go_at_call 40; (with_reducible refine (impl_ChoiceOk.calls y z A _ _ A4.out).mono ?_); rintro e c2 ⟨rfl, hb⟩; have M := z7 l hb; have O := z8 hb; revert M O; clear l HB; intro l HB; obtain ⟨l1, m1, n1, o1, p1, q1, s1, t1, x1, y1, A1, B1, C1, D1, E1, F1⟩ := zc8 l) | (go_at_call 32; (with_reducible refine (impl_within.calls B 1 1000 _ _ A6.out).mono ?_); rintro e w' ⟨rfl, ⟨nd, rfl⟩⟩) | (go_at_call 32; (with_reducible refine (impl_within.calls E 1 100 _ _ A8.out).mono ?_); rintro e w' ⟨rfl, ⟨nd, rfl⟩⟩) | (go_at_call 32; (with_reducible refine (impl_within.calls I 1 100 b0 _ G1.out).mono ?_); rintro e w' ⟨rfl, ⟨nd, rfl⟩⟩))
 all_goals go_ret
 all_goals exact ⟨zE, zB⟩
def impl_PagesOf.f (k : Nat) (q : Int) (u : List (S57)) (y : Int) (z : Int) (A : Int) (B : Int) (l : Int) (E : Int) (L : Int) : Option (Int) := (impl_HouseOk.f k q u y z A B l E).bind fun I => (if I = true then ((impl_within.f L 0 1000).bind fun J => (if J = true then (if l = 0 then (none) else (some (wrap64 (Int.tdiv (wrap64 ((wrap64 (L + l)) - 1)) l)))) else (some 0))) else (some 0))
theorem impl_PagesOf.calls (k) (y) (J) (L) (q : List (S57)) (z) (A) (B) (E) (l) (I) (X) (r) (w) (T : Kd.C k57 w J q.length q) (U : q.length ≤ L) (h : impl_PagesOf.f k y q z A B E l I X = some r) :
 Calls Try.prog 18 #[.agg #[.int .i64 y, .slice J q.length L, .int .i64 z, .int .i64 A, .int .i64 B, .int .i64 E, .int .i64 l, .int .i64 I], .int .i64 X] w fun e w' => e = .returned (.int .i64 r) ∧ Below w.heap.size w w' := by
 have l1 := Try.underlying41
 have e0 := zK T
 have f0 := zK U
 clear T U
 have HB := zK (Below.refl w.heap.size w)
 have H : ((impl_HouseOk.f k y q z A B E l I).bind fun M => (if M = true then ((impl_within.f X 0 1000).bind fun O => (if O = true then (if l = 0 then (none) else (some (wrap64 (Int.tdiv (wrap64 ((wrap64 (X + l)) - 1)) l)))) else (some 0))) else (some 0))) = some r := h
 clear h
 replace H := z6 H
 obtain ⟨M, i0, H⟩ := H
 have A3 := zK i0
 clear i0
 rcases zN (M = true) with c4 | c4
 replace c4 := Bool.eq_false_iff.mpr c4
 subst c4
 rw [if_neg (show ¬ (false = true) by decide)] at H
 obtain rfl := z5 H
 rotate_left
 subst c4
 rw [if_pos rfl] at H
 replace H := z6 H
 obtain ⟨O, j0, H⟩ := H
 have A5 := zK j0
 clear j0
 rcases zN (O = true) with c6 | c6
 replace c6 := Bool.eq_false_iff.mpr c6
 subst c6
 rw [if_neg (show ¬ (false = true) by decide)] at H
 obtain rfl := z5 H
 rotate_left
 subst c6
 rw [if_pos rfl] at H
 by_cases c7 : l = 0
 · rw [if_pos c7] at H
   exact absurd H (by simp)
 rw [if_neg c7] at H
 have o1 := beq_eq_false_iff_ne.mpr c7
 have p1 := bne_iff_ne.mpr c7
 obtain rfl := z5 H
 all_goals go_enter Try.func18, Try.ntmps18
 all_goals go_wp2_with (first | ((with_reducible refine gd 2 rfl ?_); refine zJ 2 #[.int .i64 y, .slice J q.length L, .int .i64 z, .int .i64 A, .int .i64 B, .int .i64 E, .int .i64 l, .int .i64 I] 41 ?_; intro g1 hg w8 hbox hb; have c0 := z8 hb; have d0 := zK (hbox); have G0 := z9 hg; have I0 := z9 hg; revert c0 d0 G0 I0; clear HB; intro HB u i1 j1; clear hb hbox hg; obtain ⟨J0, L0, M0, N0, O0, R0, S0, T0, U0, V0, X0, b1, c1, d1, e1, f1⟩ := zc8 u) | ((with_reducible refine gc 15 rfl ?_); refine zF 6 Try.func15 #[.agg #[.int .i64 y, .slice J q.length L, .int .i64 z, .int .i64 A, .int .i64 B, .int .i64 E, .int .i64 l, .int .i64 I]] rfl zL ?_; refine (impl_HouseOk.calls k y _ _ q z A B E l I _ _ (zS e0) f0.out A3.out).mono ?_; rintro e q1 ⟨rfl, hb⟩; refine ⟨_, rfl, ?_⟩; have c0 := z7 u hb; have d0 := z8 hb; revert c0 d0; clear u HB; intro u HB) | (go_at_call 32; (with_reducible refine (impl_within.calls X 0 1000 _ _ A5.out).mono ?_); rintro e w' ⟨rfl, ⟨nd, rfl⟩⟩; obtain ⟨l0, m0, n0, o0, p0, q0, s0, t0, x0, y0, A0, B0, C0, D0, E0, F0⟩ := zc8 u))
 all_goals go_ret
 all_goals exact ⟨zE, zB⟩
def laws_FnExactPagesOf.f (k : Nat) (y : Int) (z : List (S71)) (A : Int) (B : Int) (E : Int) (I : Int) (J : Int) (L : Int) (X : Int) : Option (Bool) := (laws_szHouse.f k y z A B E I J L 1048576).bind fun M => (if M < 0 then (some true) else ((laws_toHouse.f k y z A B E I J L).bind fun q => ((spec_PagesOf.f k q.1 q.2.1 q.2.2.1 q.2.2.2.1 q.2.2.2.2.1 q.2.2.2.2.2.1 q.2.2.2.2.2.2.1 q.2.2.2.2.2.2.2 X).bind fun O => ((laws_toHouse.f k y z A B E I J L).bind fun l => ((impl_PagesOf.f k l.1 l.2.1 l.2.2.1 l.2.2.2.1 l.2.2.2.2.1 l.2.2.2.2.2.1 l.2.2.2.2.2.2.1 l.2.2.2.2.2.2.2 X).bind fun T => (if T = O then ((laws_toHouse.f k y z A B E I J L).bind fun u => ((laws_eqHouse.f k l.1 l.2.1 l.2.2.1 l.2.2.2.1 l.2.2.2.2.1 l.2.2.2.2.2.1 l.2.2.2.2.2.2.1 l.2.2.2.2.2.2.2 u.1 u.2.1 u.2.2.1 u.2.2.2.1 u.2.2.2.2.1 u.2.2.2.2.2.1 u.2.2.2.2.2.2.1 u.2.2.2.2.2.2.2).bind fun U => (if U = true then (some true) else (some false)))) else (some false)))))))
theorem laws_FnExactPagesOf.calls (k) (E) (p0) (q0) (B : List (S71)) (I) (J) (L) (M) (O) (T) (a1) (r : Bool) (w) (p1 : Kd.C k71 w p0 B.length B) (q1 : B.length ≤ q0) (h : laws_FnExactPagesOf.f k E B I J L M O T a1 = some r) :
 Calls Try.prog 5 #[.agg #[.int .i64 E, .slice p0 B.length q0, .int .i64 I, .int .i64 J, .int .i64 L, .int .i64 M, .int .i64 O, .int .i64 T], .int .i64 a1] w fun e w' => e = .returned (.bool r) ∧ Below w.heap.size w w' := by
 have F6 := Try.underlying36
 have G6 := Try.underlying41
 have y0 := zK p1
 have A0 := zK q1
 clear p1 q1
 have HB := zK (Below.refl w.heap.size w)
 have H : ((laws_szHouse.f k E B I J L M O T 1048576).bind fun j1 => (if j1 < 0 then (some true) else ((laws_toHouse.f k E B I J L M O T).bind fun B0 => ((spec_PagesOf.f k B0.1 B0.2.1 B0.2.2.1 B0.2.2.2.1 B0.2.2.2.2.1 B0.2.2.2.2.2.1 B0.2.2.2.2.2.2.1 B0.2.2.2.2.2.2.2 a1).bind fun F0 => ((laws_toHouse.f k E B I J L M O T).bind fun z => ((impl_PagesOf.f k z.1 z.2.1 z.2.2.1 z.2.2.2.1 z.2.2.2.2.1 z.2.2.2.2.2.1 z.2.2.2.2.2.2.1 z.2.2.2.2.2.2.2 a1).bind fun C0 => (if C0 = F0 then ((laws_toHouse.f k E B I J L M O T).bind fun A => ((laws_eqHouse.f k z.1 z.2.1 z.2.2.1 z.2.2.2.1 z.2.2.2.2.1 z.2.2.2.2.2.1 z.2.2.2.2.2.2.1 z.2.2.2.2.2.2.2 A.1 A.2.1 A.2.2.1 A.2.2.2.1 A.2.2.2.2.1 A.2.2.2.2.2.1 A.2.2.2.2.2.2.1 A.2.2.2.2.2.2.2).bind fun D0 => (if D0 = true then (some true) else (some false)))) else (some false)))))))) = some r := h
 clear h
 replace H := z6 H
 obtain ⟨j1, f2, H⟩ := H
 have A3 := zK f2
 clear f2
 by_cases c4 : j1 < 0
 rw [if_pos c4] at H
 have o2 := z1 c4
 clear c4
 obtain rfl := z5 H
 rotate_left
 rw [if_neg c4] at H
 have o2 := z2 c4
 clear c4
 replace H := z6 H
 obtain ⟨⟨M0, E0, N0, O0, R0, S0, T0, U0⟩, g2, H⟩ := H
 replace H : ((spec_PagesOf.f k M0 E0 N0 O0 R0 S0 T0 U0 a1).bind fun F0 => ((laws_toHouse.f k E B I J L M O T).bind fun z => ((impl_PagesOf.f k z.1 z.2.1 z.2.2.1 z.2.2.2.1 z.2.2.2.2.1 z.2.2.2.2.2.1 z.2.2.2.2.2.2.1 z.2.2.2.2.2.2.2 a1).bind fun C0 => (if C0 = F0 then ((laws_toHouse.f k E B I J L M O T).bind fun A => ((laws_eqHouse.f k z.1 z.2.1 z.2.2.1 z.2.2.2.1 z.2.2.2.2.1 z.2.2.2.2.2.1 z.2.2.2.2.2.2.1 z.2.2.2.2.2.2.2 A.1 A.2.1 A.2.2.1 A.2.2.2.1 A.2.2.2.2.1 A.2.2.2.2.2.1 A.2.2.2.2.2.2.1 A.2.2.2.2.2.2.2).bind fun D0 => (if D0 = true then (some true) else (some false)))) else (some false))))) = some r := H
 have A8 := zK g2
 clear g2
 replace H := z6 H
 obtain ⟨F0, i2, H⟩ := H
 have A9 := zK i2
 clear i2
 replace H := z6 H
 obtain ⟨⟨f0, e0, g0, i0, j0, l0, m0, n0⟩, y1, H⟩ := H
 replace H : ((impl_PagesOf.f k f0 e0 g0 i0 j0 l0 m0 n0 a1).bind fun C0 => (if C0 = F0 then ((laws_toHouse.f k E B I J L M O T).bind fun A => ((laws_eqHouse.f k f0 e0 g0 i0 j0 l0 m0 n0 A.1 A.2.1 A.2.2.1 A.2.2.2.1 A.2.2.2.2.1 A.2.2.2.2.2.1 A.2.2.2.2.2.2.1 A.2.2.2.2.2.2.2).bind fun D0 => (if D0 = true then (some true) else (some false)))) else (some false))) = some r := H
 have j2 := zK y1
 clear y1
 replace H := z6 H
 obtain ⟨C0, A1, H⟩ := H
 have l2 := zK A1
 clear A1
 rcases zN (C0 = F0) with i1 | i1
 rw [if_neg i1] at H
 have X1 := beq_eq_false_iff_ne.mpr i1
 have a2 := bne_iff_ne.mpr i1
 obtain rfl := z5 H
 rotate_left
 rw [if_pos i1] at H
 have X1 := beq_iff_eq.mpr i1
 have a2 := bne_eq_false_iff_eq.mpr i1
 clear i1
 replace H := z6 H
 obtain ⟨⟨V0, X0, b1, c1, d1, e1, f1, g1⟩, B1, H⟩ := H
 replace H : ((laws_eqHouse.f k f0 e0 g0 i0 j0 l0 m0 n0 V0 X0 b1 c1 d1 e1 f1 g1).bind fun D0 => (if D0 = true then (some true) else (some false))) = some r := H
 have m2 := zK B1
 clear B1
 replace H := z6 H
 obtain ⟨D0, C1, H⟩ := H
 have n2 := zK C1
 clear C1
 by_cases t1 : D0 = true
 · subst t1
   rw [if_pos rfl] at H
   obtain rfl := z5 H
   go_enter Try.func5, Try.ntmps5
   try go_wp2_with (first | ((with_reducible refine gd 2 rfl ?_); refine zJ 2 #[.int .i64 E, .slice p0 B.length q0, .int .i64 I, .int .i64 J, .int .i64 L, .int .i64 M, .int .i64 O, .int .i64 T] 36 ?_; intro c0 hg I6 hbox hb; have U := z8 hb; have X := zK (hbox); have a0 := z9 hg; have d0 := z9 hg; revert U X a0 d0; clear HB; intro HB l b2 c2; clear hb hbox hg; obtain ⟨R2, T2, U2, V2, X2, a3, b3, c3, d3, e3, f3, g3, i3, j3, l3, m3⟩ := zc8 l) | ((with_reducible refine gc 12 rfl ?_); refine zF 11 Try.func12 #[.agg #[.int .i64 E, .slice p0 B.length q0, .int .i64 I, .int .i64 J, .int .i64 L, .int .i64 M, .int .i64 O, .int .i64 T], .int .i64 1048576] rfl zL ?_; refine (laws_szHouse.calls k E _ _ B I J L M O T 1048576 j1 _ (zS y0) A0.out A3.out).mono ?_; rintro e J6 ⟨rfl, hb⟩; refine ⟨_, rfl, ?_⟩; have U := z7 l hb; have X := z8 hb; revert U X; clear l HB; intro l HB; obtain ⟨n3, o3, p3, q3, t3, x3, y3, B3, C3, D3, E3, F3, G3, I3, J3, L3⟩ := zc8 l) | ((with_reducible refine gc 14 rfl ?_); refine zF 15 Try.func14 #[.agg #[.int .i64 E, .slice p0 B.length q0, .int .i64 I, .int .i64 J, .int .i64 L, .int .i64 M, .int .i64 O, .int .i64 T]] rfl zL ?_; refine (laws_toHouse.calls k E _ _ B I J L M O T M0 E0 N0 O0 R0 S0 T0 U0 _ (zS y0) A0.out A8.out).mono ?_; rintro e L6 ⟨v256, rfl, t0, hb⟩; refine ⟨_, rfl, ?_⟩; have U := zK (Kd.S_lower t0 (zz zB)); have X := z7 l hb; have a0 := z8 hb; revert U X a0; clear l HB; intro u l HB; obtain ⟨D1, E1, p2⟩ := Kd.S_slice u.out; subst p2) | ((with_reducible refine gc 17 rfl ?_); refine zF 17 Try.func17 #[.agg #[.int .i64 M0, .slice D1 E0.length E1, .int .i64 N0, .int .i64 O0, .int .i64 R0, .int .i64 S0, .int .i64 T0, .int .i64 U0], .int .i64 a1] rfl zL ?_; refine (spec_PagesOf.calls k M0 _ _ E0 N0 O0 R0 S0 T0 U0 a1 F0 _ (zC (Kd.S_reads' u.out).2.2) ((Kd.S_reads' u.out).2.1) A9.out).mono ?_; rintro e M6 ⟨rfl, hb⟩; refine ⟨_, rfl, ?_⟩; have U := zK (Kd.S_below (zkS u) hb); have X := z7 l hb; have a0 := z8 hb; revert U X a0; clear u l HB; intro u l HB; obtain ⟨M3, N3, O3, R3, S3, T3, U3, V3, X3, a4, b4, d4, e4, f4, g4, i4⟩ := zc8 l) | ((with_reducible refine gc 14 rfl ?_); refine zF 19 Try.func14 #[.agg #[.int .i64 E, .slice p0 B.length q0, .int .i64 I, .int .i64 J, .int .i64 L, .int .i64 M, .int .i64 O, .int .i64 T]] rfl zL ?_; refine (laws_toHouse.calls k E _ _ B I J L M O T f0 e0 g0 i0 j0 l0 m0 n0 _ (zS y0) A0.out j2.out).mono ?_; rintro e N6 ⟨v267, rfl, t0, hb⟩; refine ⟨_, rfl, ?_⟩; have U := zK (Kd.S_elder' (zkS u) (Kd.S_base t0) hb); have X := zK (Kd.S_lower (Kd.S_new' t0 (Kd.S_lt (zkS u))) (zz zB)); have a0 := z7 l hb; have d0 := z8 hb; revert U X a0 d0; clear u l HB; intro u y l HB) | ((with_reducible refine gd 7 rfl ?_); refine zJ 7 #[.int .i64 0, .slice none 0 0, .int .i64 0, .int .i64 0, .int .i64 0, .int .i64 0, .int .i64 0, .int .i64 0] 41 ?_; intro b0 hg O6 hbox hb; have U := zK (Kd.S_below (zkS u) hb); have X := zK (Kd.S_below (zkS y) hb); have a0 := z7 l hb; have d0 := z8 hb; have x0 := zK (hbox); have G0 := z9 hg; have F1 := z9 hg; have G1 := zHH hg l; have I1 := zGG hg l; revert U X a0 d0 x0 G0 F1 G1 I1; clear u y l HB; intro u y l HB q d2 e2 I0 J0; clear hb hbox hg; have B6 := J0.out; have C6 := I0.out; obtain ⟨j4, l4, m4, n4, o4, p4, q4, t4, x4, y4, A4, B4, C4, D4, E4, F4⟩ := zc8 q; obtain ⟨n1, l1, q2⟩ := Kd.S_slice y.out; subst q2) | ((with_reducible refine gc 18 rfl ?_); refine zF 22 Try.func18 #[.agg #[.int .i64 f0, .slice n1 e0.length l1, .int .i64 g0, .int .i64 i0, .int .i64 j0, .int .i64 l0, .int .i64 m0, .int .i64 n0], .int .i64 a1] rfl zL ?_; (with_reducible refine (impl_PagesOf.calls k f0 _ _ e0 g0 i0 j0 l0 m0 n0 a1 C0 _ ?side1 ?side2 l2.out).mono ?_); (case side1 => refine (Kd.S_reads' (e := 57) (base := w.heap.size) (ok := fun k_ => (True ∧ some k_ ≠ (.slice D1 E0.length E1 : Value).ownBlock)) (n := e0.length) (c := l1) ?_).2.2; exact (Kd.S_mono (zlS (Kd.S_types y.out q.out (by decide))) (fun _ h_ => h_.1))); (case side2 => exact (Kd.S_reads' y.out).2.1); rintro e y6 ⟨rfl, hb⟩; refine ⟨_, rfl, ?_⟩; have U := zK (Kd.S_below (Kd.S_mono (zlS (Kd.S_types u.out q.out (by decide))) (fun _ h_ => h_.1)) hb); have X := zK (Kd.S_below (Kd.S_mono (zlS (Kd.S_types y.out q.out (by decide))) (fun _ h_ => h_.1)) hb); have a0 := zK (zg (zV l) hb); have d0 := zK (zg (g := b0) (o := .cells #[.int .i64 f0, .slice n1 e0.length l1, .int .i64 g0, .int .i64 i0, .int .i64 j0, .int .i64 l0, .int .i64 m0, .int .i64 n0] 41 (0, 0)) (zW q) hb); have x0 := z8 hb; revert U X a0 d0 x0; clear u y l q HB; intro u y l q HB))
   have U := zK (Kd.S_drew u.out)
   have X := zK (Kd.S_drew y.out)
   have a0 := zK (zd l.out)
   have d0 := zK (zd q.out)
   have x0 := zK (ze HB.out)
   revert U X a0 d0 x0
   clear u y l q HB
   intro u y l q HB
   refine start_ (n := 5) (S := fun w' => w'.cell? ⟨b0, 0, none⟩ = some (.int .i64 f0) ∧ w'.cell? ⟨b0, 1, none⟩ = some (.slice n1 e0.length l1) ∧ w'.cell? ⟨b0, 2, none⟩ = some (.int .i64 g0) ∧ w'.cell? ⟨b0, 3, none⟩ = some (.int .i64 i0) ∧ w'.cell? ⟨b0, 4, none⟩ = some (.int .i64 j0) ∧ w'.cell? ⟨b0, 5, none⟩ = some (.int .i64 l0) ∧ w'.cell? ⟨b0, 6, none⟩ = some (.int .i64 m0) ∧ w'.cell? ⟨b0, 7, none⟩ = some (.int .i64 n0) ∧ w'.cell? ⟨c0, 0, none⟩ = some (.int .i64 E) ∧ w'.cell? ⟨c0, 1, none⟩ = some (.slice p0 B.length q0) ∧ w'.cell? ⟨c0, 2, none⟩ = some (.int .i64 I) ∧ w'.cell? ⟨c0, 3, none⟩ = some (.int .i64 J) ∧ w'.cell? ⟨c0, 4, none⟩ = some (.int .i64 L) ∧ w'.cell? ⟨c0, 5, none⟩ = some (.int .i64 M) ∧ w'.cell? ⟨c0, 6, none⟩ = some (.int .i64 O) ∧ w'.cell? ⟨c0, 7, none⟩ = some (.int .i64 T)) (ds := []) (bl 5 0) (by kernel_rfl) rfl (by kernel_rfl) ⟨zy q 0, zy q 1, zy q 2, zy q 3, zy q 4, zy q 5, zy q 6, zy q 7, zy l 0, zy l 1, zy l 2, zy l 3, zy l 4, zy l 5, zy l 6, zy l 7⟩ (fun hHeld => ?_)
   generalize y6.drew = R6 at u y l q HB hHeld ⊢
   refine take_ (i := 0) (N := some 26) (v := ?_) (a' := ?_) (bl 5 1) rfl rfl (by kernel_rfl) (fun _ _ _ h => h) (Or.inl ⟨by rfl, ?_⟩) hHeld ?_ ?_
   rotate_left
   · rintro w' ⟨s0, s1, s2, s3, s4, s5, s6, s7, s8, s9, J1, L1, M1, N1, O1, R1⟩
     go_simp
     with_reducible rfl
   rotate_left
   · simp only [Act.put, zq1, zq2, zq3, i64_w, i32_w]
     rfl
   refine take_ (i := 1) (N := some 27) (v := ?_) (a' := ?_) (bl 5 3) rfl rfl (by kernel_rfl) (fun _ _ _ h => h) (Or.inl ⟨by rfl, ?_⟩) hHeld ?_ ?_
   rotate_left
   · rintro w' ⟨s0, s1, s2, s3, s4, s5, s6, s7, s8, s9, J1, L1, M1, N1, O1, R1⟩
     go_simp
     with_reducible rfl
   rotate_left
   · simp only [Act.put, zq1, zq2, zq3, i64_w, i32_w]
     rfl
   refine one_ (i := 2) (N := some 28) (bl 5 7) rfl rfl (by kernel_rfl) (by decide) (fun K hK => ?_)
   refine goes_ Try.func14 (by kernel_rfl) rfl #[.agg #[.int .i64 E, .slice p0 B.length q0, .int .i64 I, .int .i64 J, .int .i64 L, .int .i64 M, .int .i64 O, .int .i64 T]] (by rfl) rfl rfl zL ?_
   refine (laws_toHouse.calls k E _ _ B I J L M O T V0 X0 b1 c1 d1 e1 f1 g1 _ (zS y0) A0.out m2.out).mono ?_
   rintro e S6 ⟨v279, rfl, t0, hb⟩
   refine ⟨_, rfl, ?_⟩
   have U := zK (Kd.S_elder' (zkS u) (Kd.S_base t0) hb)
   have X := zK (Kd.S_elder' (zkS y) (Kd.S_base t0) hb)
   have a0 := zK (Kd.S_lower (Kd.S_new' (Kd.S_new' t0 (Kd.S_lt (zkS u))) (Kd.S_lt (zkS y))) (zz zB))
   have d0 := z7 l hb
   have x0 := z7 q hb
   have G0 := z8 hb
   revert U X a0 d0 x0 G0
   clear u y l q HB
   intro u y o0 l q HB
   (try clear hb)
   (try clear hb2)
   (try clear hk)
   (try clear hi)
   (try clear t0)
   obtain ⟨I2, J2, S1⟩ := Kd.S_slice o0.out
   (first | subst S1 | (injection S1 with f1_ f2_ f3_; have f4_ := f1_.symm; have f5_ := f3_.symm; clear f1_ f2_ f3_; subst f4_; subst f5_))
   refine hK.out _ _ ⟨zy q 0, zy q 1, zy q 2, zy q 3, zy q 4, zy q 5, zy q 6, zy q 7, zy l 0, zy l 1, zy l 2, zy l 3, zy l 4, zy l 5, zy l 6, zy l 7⟩ (fun hHeld => ?_)
   clear hK K
   refine zU 28 ?_
   refine one_ (i := 3) (N := some 29) (bl 5 15) rfl rfl (by kernel_rfl) (by decide) (fun K hK => ?_)
   refine goes_ Try.func16 (by kernel_rfl) rfl #[.agg #[.int .i64 f0, .slice n1 e0.length l1, .int .i64 g0, .int .i64 i0, .int .i64 j0, .int .i64 l0, .int .i64 m0, .int .i64 n0], .agg #[.int .i64 V0, .slice I2 X0.length J2, .int .i64 b1, .int .i64 c1, .int .i64 d1, .int .i64 e1, .int .i64 f1, .int .i64 g1]] (by rfl) rfl rfl zL ?_
   refine (laws_eqHouse.calls k f0 _ _ e0 g0 i0 j0 l0 m0 n0 V0 _ _ X0 b1 c1 d1 e1 f1 g1 true _ (zC (Kd.S_reads' y.out).2.2) ((Kd.S_reads' y.out).2.1) (zC (Kd.S_reads' o0.out).2.2) ((Kd.S_reads' o0.out).2.1) n2.out).mono ?_
   rintro e T6 ⟨rfl, hb⟩
   refine ⟨_, rfl, ?_⟩
   have U := zK (Kd.S_below (zkS u) hb)
   have X := zK (Kd.S_below (zkS y) hb)
   have a0 := zK (Kd.S_below (zkS o0) hb)
   have d0 := z7 l hb
   have x0 := z7 q hb
   have G0 := z8 hb
   revert U X a0 d0 x0 G0
   clear u y o0 l q HB
   intro u y o0 l q HB
   (try clear hb)
   (try clear hb2)
   (try clear hk)
   (try clear hi)
   refine hK.out _ _ ⟨zy q 0, zy q 1, zy q 2, zy q 3, zy q 4, zy q 5, zy q 6, zy q 7, zy l 0, zy l 1, zy l 2, zy l 3, zy l 4, zy l 5, zy l 6, zy l 7⟩ (fun hHeld => ?_)
   clear hK K
   refine zU 29 ?_
   refine pure_ (i := 4) (N := some 30) (v := ?_) (a' := ?_) (bl 5 31) rfl rfl (by kernel_rfl) (fun _ _ _ h => h) (Or.inl ⟨by rfl, ?_⟩) ?_ ?_
   rotate_left
   · intro w'
     go_simp
     with_reducible rfl
   rotate_left
   · simp only [Act.put, zq1, zq2, zq3, i64_w, i32_w]
     rfl
   refine done_ (by kernel_rfl) ?_
   try go_wp2
   go_ret
   exact ⟨zE, zB⟩
 replace t1 := Bool.eq_false_iff.mpr t1
 subst t1
 rw [if_neg (show ¬ (false = true) by decide)] at H
 obtain rfl := z5 H
 all_goals go_enter Try.func5, Try.ntmps5
 all_goals try go_wp2_with (first | ((with_reducible refine gd 2 rfl ?_); refine zJ 2 #[.int .i64 E, .slice p0 B.length q0, .int .i64 I, .int .i64 J, .int .i64 L, .int .i64 M, .int .i64 O, .int .i64 T] 36 ?_; intro c0 hg U6 hbox hb; have U := z8 hb; have X := zK (hbox); have a0 := z9 hg; have d0 := z9 hg; revert U X a0 d0; clear HB; intro HB l b2 c2; clear hb hbox hg; obtain ⟨G4, I4, J4, L4, M4, N4, O4, R4, S4, T4, U4, V4, X4, a5, b5, c5⟩ := zc8 l) | ((with_reducible refine gc 12 rfl ?_); refine zF 11 Try.func12 #[.agg #[.int .i64 E, .slice p0 B.length q0, .int .i64 I, .int .i64 J, .int .i64 L, .int .i64 M, .int .i64 O, .int .i64 T], .int .i64 1048576] rfl zL ?_; refine (laws_szHouse.calls k E _ _ B I J L M O T 1048576 j1 _ (zS y0) A0.out A3.out).mono ?_; rintro e V6 ⟨rfl, hb⟩; refine ⟨_, rfl, ?_⟩; have U := z7 l hb; have X := z8 hb; revert U X; clear l HB; intro l HB; obtain ⟨d5, e5, f5, g5, i5, j5, l5, m5, n5, o5, p5, q5, t5, x5, y5, A5⟩ := zc8 l) | ((with_reducible refine gc 14 rfl ?_); refine zF 15 Try.func14 #[.agg #[.int .i64 E, .slice p0 B.length q0, .int .i64 I, .int .i64 J, .int .i64 L, .int .i64 M, .int .i64 O, .int .i64 T]] rfl zL ?_; refine (laws_toHouse.calls k E _ _ B I J L M O T M0 E0 N0 O0 R0 S0 T0 U0 _ (zS y0) A0.out A8.out).mono ?_; rintro e X6 ⟨v256, rfl, t0, hb⟩; refine ⟨_, rfl, ?_⟩; have U := zK (Kd.S_lower t0 (zz zB)); have X := z7 l hb; have a0 := z8 hb; revert U X a0; clear l HB; intro u l HB; obtain ⟨T1, U1, L2⟩ := Kd.S_slice u.out; subst L2) | ((with_reducible refine gc 17 rfl ?_); refine zF 17 Try.func17 #[.agg #[.int .i64 M0, .slice T1 E0.length U1, .int .i64 N0, .int .i64 O0, .int .i64 R0, .int .i64 S0, .int .i64 T0, .int .i64 U0], .int .i64 a1] rfl zL ?_; refine (spec_PagesOf.calls k M0 _ _ E0 N0 O0 R0 S0 T0 U0 a1 F0 _ (zC (Kd.S_reads' u.out).2.2) ((Kd.S_reads' u.out).2.1) A9.out).mono ?_; rintro e a7 ⟨rfl, hb⟩; refine ⟨_, rfl, ?_⟩; have U := zK (Kd.S_below (zkS u) hb); have X := z7 l hb; have a0 := z8 hb; revert U X a0; clear u l HB; intro u l HB; obtain ⟨B5, C5, D5, E5, F5, G5, I5, J5, L5, M5, N5, O5, R5, S5, T5, U5⟩ := zc8 l) | ((with_reducible refine gc 14 rfl ?_); refine zF 19 Try.func14 #[.agg #[.int .i64 E, .slice p0 B.length q0, .int .i64 I, .int .i64 J, .int .i64 L, .int .i64 M, .int .i64 O, .int .i64 T]] rfl zL ?_; refine (laws_toHouse.calls k E _ _ B I J L M O T f0 e0 g0 i0 j0 l0 m0 n0 _ (zS y0) A0.out j2.out).mono ?_; rintro e b7 ⟨v267, rfl, t0, hb⟩; refine ⟨_, rfl, ?_⟩; have U := zK (Kd.S_elder' (zkS u) (Kd.S_base t0) hb); have X := zK (Kd.S_lower (Kd.S_new' t0 (Kd.S_lt (zkS u))) (zz zB)); have a0 := z7 l hb; have d0 := z8 hb; revert U X a0 d0; clear u l HB; intro u y l HB) | ((with_reducible refine gd 7 rfl ?_); refine zJ 7 #[.int .i64 0, .slice none 0 0, .int .i64 0, .int .i64 0, .int .i64 0, .int .i64 0, .int .i64 0, .int .i64 0] 41 ?_; intro b0 hg c7 hbox hb; have U := zK (Kd.S_below (zkS u) hb); have X := zK (Kd.S_below (zkS y) hb); have a0 := z7 l hb; have d0 := z8 hb; have x0 := zK (hbox); have G0 := z9 hg; have F1 := z9 hg; have G1 := zHH hg l; have I1 := zGG hg l; revert U X a0 d0 x0 G0 F1 G1 I1; clear u y l HB; intro u y l HB q d2 e2 I0 J0; clear hb hbox hg; have D6 := J0.out; have E6 := I0.out; obtain ⟨V5, X5, a6, b6, c6, d6, e6, f6, g6, i6, j6, l6, m6, n6, o6, p6⟩ := zc8 q; obtain ⟨o1, m1, M2⟩ := Kd.S_slice y.out; subst M2) | ((with_reducible refine gc 18 rfl ?_); refine zF 22 Try.func18 #[.agg #[.int .i64 f0, .slice o1 e0.length m1, .int .i64 g0, .int .i64 i0, .int .i64 j0, .int .i64 l0, .int .i64 m0, .int .i64 n0], .int .i64 a1] rfl zL ?_; (with_reducible refine (impl_PagesOf.calls k f0 _ _ e0 g0 i0 j0 l0 m0 n0 a1 C0 _ ?side1 ?side2 l2.out).mono ?_); (case side1 => refine (Kd.S_reads' (e := 57) (base := w.heap.size) (ok := fun k_ => (True ∧ some k_ ≠ (.slice T1 E0.length U1 : Value).ownBlock)) (n := e0.length) (c := m1) ?_).2.2; exact (Kd.S_mono (zlS (Kd.S_types y.out q.out (by decide))) (fun _ h_ => h_.1))); (case side2 => exact (Kd.S_reads' y.out).2.1); rintro e A6 ⟨rfl, hb⟩; refine ⟨_, rfl, ?_⟩; have U := zK (Kd.S_below (Kd.S_mono (zlS (Kd.S_types u.out q.out (by decide))) (fun _ h_ => h_.1)) hb); have X := zK (Kd.S_below (Kd.S_mono (zlS (Kd.S_types y.out q.out (by decide))) (fun _ h_ => h_.1)) hb); have a0 := zK (zg (zV l) hb); have d0 := zK (zg (g := b0) (o := .cells #[.int .i64 f0, .slice o1 e0.length m1, .int .i64 g0, .int .i64 i0, .int .i64 j0, .int .i64 l0, .int .i64 m0, .int .i64 n0] 41 (0, 0)) (zW q) hb); have x0 := z8 hb; revert U X a0 d0 x0; clear u y l q HB; intro u y l q HB))
 · have U := zK (Kd.S_drew u.out)
   have X := zK (Kd.S_drew y.out)
   have a0 := zK (zd l.out)
   have d0 := zK (zd q.out)
   have x0 := zK (ze HB.out)
   revert U X a0 d0 x0
   clear u y l q HB
   intro u y l q HB
   refine start_ (n := 5) (S := fun w' => w'.cell? ⟨b0, 0, none⟩ = some (.int .i64 f0) ∧ w'.cell? ⟨b0, 1, none⟩ = some (.slice o1 e0.length m1) ∧ w'.cell? ⟨b0, 2, none⟩ = some (.int .i64 g0) ∧ w'.cell? ⟨b0, 3, none⟩ = some (.int .i64 i0) ∧ w'.cell? ⟨b0, 4, none⟩ = some (.int .i64 j0) ∧ w'.cell? ⟨b0, 5, none⟩ = some (.int .i64 l0) ∧ w'.cell? ⟨b0, 6, none⟩ = some (.int .i64 m0) ∧ w'.cell? ⟨b0, 7, none⟩ = some (.int .i64 n0) ∧ w'.cell? ⟨c0, 0, none⟩ = some (.int .i64 E) ∧ w'.cell? ⟨c0, 1, none⟩ = some (.slice p0 B.length q0) ∧ w'.cell? ⟨c0, 2, none⟩ = some (.int .i64 I) ∧ w'.cell? ⟨c0, 3, none⟩ = some (.int .i64 J) ∧ w'.cell? ⟨c0, 4, none⟩ = some (.int .i64 L) ∧ w'.cell? ⟨c0, 5, none⟩ = some (.int .i64 M) ∧ w'.cell? ⟨c0, 6, none⟩ = some (.int .i64 O) ∧ w'.cell? ⟨c0, 7, none⟩ = some (.int .i64 T)) (ds := []) (bl 5 0) (by kernel_rfl) rfl (by kernel_rfl) ⟨zy q 0, zy q 1, zy q 2, zy q 3, zy q 4, zy q 5, zy q 6, zy q 7, zy l 0, zy l 1, zy l 2, zy l 3, zy l 4, zy l 5, zy l 6, zy l 7⟩ (fun hHeld => ?_)
   generalize A6.drew = d7 at u y l q HB hHeld ⊢
   refine take_ (i := 0) (N := some 26) (v := ?_) (a' := ?_) (bl 5 1) rfl rfl (by kernel_rfl) (fun _ _ _ h => h) (Or.inl ⟨by rfl, ?_⟩) hHeld ?_ ?_
   rotate_left
   · rintro w' ⟨s0, s1, s2, s3, s4, s5, s6, s7, s8, s9, J1, L1, M1, N1, O1, R1⟩
     go_simp
     with_reducible rfl
   rotate_left
   · simp only [Act.put, zq1, zq2, zq3, i64_w, i32_w]
     rfl
   refine take_ (i := 1) (N := some 27) (v := ?_) (a' := ?_) (bl 5 3) rfl rfl (by kernel_rfl) (fun _ _ _ h => h) (Or.inl ⟨by rfl, ?_⟩) hHeld ?_ ?_
   rotate_left
   · rintro w' ⟨s0, s1, s2, s3, s4, s5, s6, s7, s8, s9, J1, L1, M1, N1, O1, R1⟩
     go_simp
     with_reducible rfl
   rotate_left
   · simp only [Act.put, zq1, zq2, zq3, i64_w, i32_w]
     rfl
   refine one_ (i := 2) (N := some 28) (bl 5 7) rfl rfl (by kernel_rfl) (by decide) (fun K hK => ?_)
   refine goes_ Try.func14 (by kernel_rfl) rfl #[.agg #[.int .i64 E, .slice p0 B.length q0, .int .i64 I, .int .i64 J, .int .i64 L, .int .i64 M, .int .i64 O, .int .i64 T]] (by rfl) rfl rfl zL ?_
   refine (laws_toHouse.calls k E _ _ B I J L M O T V0 X0 b1 c1 d1 e1 f1 g1 _ (zS y0) A0.out m2.out).mono ?_
   rintro e e7 ⟨v279, rfl, t0, hb⟩
   refine ⟨_, rfl, ?_⟩
   have U := zK (Kd.S_elder' (zkS u) (Kd.S_base t0) hb)
   have X := zK (Kd.S_elder' (zkS y) (Kd.S_base t0) hb)
   have a0 := zK (Kd.S_lower (Kd.S_new' (Kd.S_new' t0 (Kd.S_lt (zkS u))) (Kd.S_lt (zkS y))) (zz zB))
   have d0 := z7 l hb
   have x0 := z7 q hb
   have G0 := z8 hb
   revert U X a0 d0 x0 G0
   clear u y l q HB
   intro u y o0 l q HB
   (try clear hb)
   (try clear hb2)
   (try clear hk)
   (try clear hi)
   (try clear t0)
   obtain ⟨N2, O2, V1⟩ := Kd.S_slice o0.out
   (first | subst V1 | (injection V1 with f1_ f2_ f3_; have f4_ := f1_.symm; have f5_ := f3_.symm; clear f1_ f2_ f3_; subst f4_; subst f5_))
   refine hK.out _ _ ⟨zy q 0, zy q 1, zy q 2, zy q 3, zy q 4, zy q 5, zy q 6, zy q 7, zy l 0, zy l 1, zy l 2, zy l 3, zy l 4, zy l 5, zy l 6, zy l 7⟩ (fun hHeld => ?_)
   clear hK K
   refine zU 28 ?_
   refine one_ (i := 3) (N := some 29) (bl 5 15) rfl rfl (by kernel_rfl) (by decide) (fun K hK => ?_)
   refine goes_ Try.func16 (by kernel_rfl) rfl #[.agg #[.int .i64 f0, .slice o1 e0.length m1, .int .i64 g0, .int .i64 i0, .int .i64 j0, .int .i64 l0, .int .i64 m0, .int .i64 n0], .agg #[.int .i64 V0, .slice N2 X0.length O2, .int .i64 b1, .int .i64 c1, .int .i64 d1, .int .i64 e1, .int .i64 f1, .int .i64 g1]] (by rfl) rfl rfl zL ?_
   refine (laws_eqHouse.calls k f0 _ _ e0 g0 i0 j0 l0 m0 n0 V0 _ _ X0 b1 c1 d1 e1 f1 g1 false _ (zC (Kd.S_reads' y.out).2.2) ((Kd.S_reads' y.out).2.1) (zC (Kd.S_reads' o0.out).2.2) ((Kd.S_reads' o0.out).2.1) n2.out).mono ?_
   rintro e f7 ⟨rfl, hb⟩
   refine ⟨_, rfl, ?_⟩
   have U := zK (Kd.S_below (zkS u) hb)
   have X := zK (Kd.S_below (zkS y) hb)
   have a0 := zK (Kd.S_below (zkS o0) hb)
   have d0 := z7 l hb
   have x0 := z7 q hb
   have G0 := z8 hb
   revert U X a0 d0 x0 G0
   clear u y o0 l q HB
   intro u y o0 l q HB
   (try clear hb)
   (try clear hb2)
   (try clear hk)
   (try clear hi)
   refine hK.out _ _ ⟨zy q 0, zy q 1, zy q 2, zy q 3, zy q 4, zy q 5, zy q 6, zy q 7, zy l 0, zy l 1, zy l 2, zy l 3, zy l 4, zy l 5, zy l 6, zy l 7⟩ (fun hHeld => ?_)
   clear hK K
   refine zU 29 ?_
   refine pure_ (i := 4) (N := some 30) (v := ?_) (a' := ?_) (bl 5 31) rfl rfl (by kernel_rfl) (fun _ _ _ h => h) (Or.inl ⟨by rfl, ?_⟩) ?_ ?_
   rotate_left
   · intro w'
     go_simp
     with_reducible rfl
   rotate_left
   · simp only [Act.put, zq1, zq2, zq3, i64_w, i32_w]
     rfl
   refine done_ (by kernel_rfl) ?_
   try go_wp2
   go_ret
   exact ⟨zE, zB⟩
 all_goals go_ret
 all_goals exact ⟨zE, zB⟩
def WT71 (x : S71) : Prop := (x.f0.length ≤ maxLen ∧ ∀ l ∈ x.f0, (Lit.int .i64 l).wf = true) ∧ (x.f1.length ≤ maxLen ∧ ∀ l ∈ x.f1, (Lit.int .i64 l).wf = true)
def WT24 (x : S24) : Prop := (Lit.int .i64 x.f0).wf = true ∧ (x.f1.length ≤ maxLen ∧ ∀ l ∈ x.f1, WT71 l)
def WT34 (x : S34) : Prop := (Lit.int .i64 x.f0).wf = true ∧ (Lit.int .i64 x.f1).wf = true ∧ (Lit.int .i64 x.f2).wf = true
def WT36 (x : S36) : Prop := WT24 x.f0 ∧ WT34 x.f1 ∧ (Lit.int .i64 x.f2).wf = true ∧ (Lit.int .i64 x.f3).wf = true ∧ (Lit.int .i64 x.f4).wf = true
/-- THE ONE PURE STATEMENT of laws_FnExactPagesOf: yours. -/
def laws_FnExactPagesOf.Pure : Prop := ∀ (l : S36) (q : Int), WT36 l → (Lit.int .i64 q).wf = true → ∃ k, laws_FnExactPagesOf.f k l.f0.f0 l.f0.f1 l.f1.f0 l.f1.f1 l.f1.f2 l.f2 l.f3 l.f4 q = some true
theorem laws_FnExactPagesOf.walk (P : laws_FnExactPagesOf.Pure) (l : S36) (cs0 : Array Value) (q : Int) (w : World) (A : k36.K w l cs0.toList) (w0 : WT36 l) (w1 : (Lit.int .i64 q).wf = true) :
 Calls Try.prog 5 #[.agg cs0, .int .i64 q] w fun e w' => e = .returned (.bool true) ∧ Below w.heap.size w w' := by
 obtain ⟨k, h⟩ := P l q w0 w1
 obtain ⟨u, y, hcs0, z, g0_1⟩ := k36_open A
 obtain rfl : cs0 = #[.int .i64 l.f0.f0, .slice u (l.f0.f1).length y, .int .i64 l.f1.f0, .int .i64 l.f1.f1, .int .i64 l.f1.f2, .int .i64 l.f2, .int .i64 l.f3, .int .i64 l.f4] := by cases cs0; simp_all
 refine (laws_FnExactPagesOf.calls k l.f0.f0 _ _ l.f0.f1 l.f1.f0 l.f1.f1 l.f1.f2 l.f2 l.f3 l.f4 q true w g0_1 z h).mono ?_
 rintro e w' ⟨rfl, hd⟩
 exact ⟨rfl, hd⟩
end Go.Proofs.Ytdlhmhgpafegpaa.PFnExactPagesOf
