-- Printed out of the translation by this session's own turned copy of a printer; Lean checks it.
import Derived.Test.YtmcboiffbcnalaaPFnExactLivesx0
import Derived.Test.YtmcboiffbcnalaaPFnExactLivesx1
import Derived.Test.YtmcboiffbcnalaaPFnExactLivesx9
import Derived.Test.YtmcboiffbcnalaaPFnExactLivesx10
import Derived.Test.YtmcboiffbcnalaaPFnExactLivesx19
import Derived.Test.YtmcboiffbcnalaaPFnExactLivesx22
import Derived.Test.YtmcboiffbcnalaaPFnExactLivesx23
namespace Go.Proofs.Ytmcboiffbcnalaa.PFnExactLives
open Go.RowKit Go.Proofs.YtmcboiffbcnalaaW.PrintWords Go.Proofs.YtmcboiffbcnalaaW.PrintLast Go.Proofs.YtmcboiffbcnalaaW.PrintMore
attribute [local go_sem] max2_int min2_int max_two min_two max_three min_three max_four min_four
set_option linter.unusedVariables false
set_option linter.unusedSimpArgs false
set_option maxHeartbeats 8000000
set_option maxRecDepth 100000
def laws_FnExactLives.j0 : Nat → List (S52) → List (S52) → Bool → List Int → List Int → List (S92) → List (S98) → List Int → Option (Bool)
 | 0, _, _, _, _, _, _, _, _ => none
 | k + 1, O, T, M, u, y, z, A, B => if M = true then (some false) else ((laws_markLifeS.f k T 1).bind fun q => ((laws_heldLifeS.f k q.2 1).bind fun E => (if E < 0 then (some false) else (if E = q.1 then ((laws_toNest.f k u y z A B).bind fun l => ((impl_Lives.f k l.1 l.2.1 l.2.2.1 l.2.2.2.1 l.2.2.2.2).bind fun J => ((laws_eqLifeS.f k J O).bind fun L => (if L = true then ((laws_heldLifeS.f k q.2 1).bind fun I => (if I < 0 then (some false) else (if I = q.1 then (some true) else (some false)))) else (some false))))) else (some false)))))
def laws_FnExactLives.f (k : Nat) (y : List Int) (z : List Int) (A : List (S92)) (B : List (S98)) (E : List Int) : Option (Bool) := (laws_szNest.f k y z A B E 1048576).bind fun L => (if L < 0 then (some true) else ((laws_toNest.f k y z A B E).bind fun q => ((spec_Lives.f k q.1 q.2.1 q.2.2.1 q.2.2.2.1 q.2.2.2.2).bind fun I => ((laws_toNest.f k y z A B E).bind fun l => ((impl_Lives.f k l.1 l.2.1 l.2.2.1 l.2.2.2.1 l.2.2.2.2).bind fun J => ((laws_eqLifeS.f k J I).bind fun M => (if M = true then ((laws_toNest.f k y z A B E).bind fun u => ((laws_eqNest.f k l.1 l.2.1 l.2.2.1 l.2.2.2.1 l.2.2.2.2 u.1 u.2.1 u.2.2.1 u.2.2.2.1 u.2.2.2.2).bind fun O => (if O = true then ((laws_markNest.f l.1 l.2.1 l.2.2.1 l.2.2.2.1 l.2.2.2.2 1).bind fun T => (if T < 0 then (laws_FnExactLives.j0 k I J true y z A B E) else ((laws_eqLifeS.f k J I).bind fun U => (laws_FnExactLives.j0 k I J (!U) y z A B E)))) else (some false)))) else (some false))))))))
theorem laws_FnExactLives.calls (k) (q1) (t1) (g0 : List Int) (x1) (y1) (i0 : List Int) (A1) (B1) (l0 : List (S92)) (C1) (D1) (m0 : List (S98)) (E1) (F1) (n0 : List Int) (r : Bool) (w) (p4 : Kd.C (Kd.int .i64) w q1 g0.length g0) (q4 : g0.length ≤ t1) (t4 : Kd.C (Kd.int .i64) w x1 i0.length i0) (x4 : i0.length ≤ y1) (y4 : Kd.C k92 w A1 l0.length l0) (A4 : l0.length ≤ B1) (B4 : Kd.C k98 w C1 m0.length m0) (C4 : m0.length ≤ D1) (D4 : Kd.C (Kd.int .i64) w E1 n0.length n0) (E4 : n0.length ≤ F1) (h : laws_FnExactLives.f k g0 i0 l0 m0 n0 = some r) :
 Calls Try.prog 4 #[.agg #[.slice q1 g0.length t1, .slice x1 i0.length y1, .slice A1 l0.length B1, .slice C1 m0.length D1, .slice E1 n0.length F1]] w fun e w' => e = .returned (.bool r) ∧ Below w.heap.size w w' := by
 have a7b := Try.underlying26
 have a7c := Try.underlying34
 have N1 := zK p4
 have O1 := zK q4
 clear p4 q4
 have R1 := zK t4
 have S1 := zK x4
 clear t4 x4
 have T1 := zK y4
 have U1 := zK A4
 clear y4 A4
 have V1 := zK B4
 have X1 := zK C4
 clear B4 C4
 have a2 := zK D4
 have b2 := zK E4
 clear D4 E4
 have HB := zK (Below.refl w.heap.size w)
 have H : ((laws_szNest.f k g0 i0 l0 m0 n0 1048576).bind fun U3 => (if U3 < 0 then (some true) else ((laws_toNest.f k g0 i0 l0 m0 n0).bind fun B3 => ((spec_Lives.f k B3.1 B3.2.1 B3.2.2.1 B3.2.2.2.1 B3.2.2.2.2).bind fun G0 => ((laws_toNest.f k g0 i0 l0 m0 n0).bind fun F0 => ((impl_Lives.f k F0.1 F0.2.1 F0.2.2.1 F0.2.2.2.1 F0.2.2.2.2).bind fun O => ((laws_eqLifeS.f k O G0).bind fun n3 => (if n3 = true then ((laws_toNest.f k g0 i0 l0 m0 n0).bind fun g1 => ((laws_eqNest.f k F0.1 F0.2.1 F0.2.2.1 F0.2.2.2.1 F0.2.2.2.2 g1.1 g1.2.1 g1.2.2.1 g1.2.2.2.1 g1.2.2.2.2).bind fun M2 => (if M2 = true then ((laws_markNest.f F0.1 F0.2.1 F0.2.2.1 F0.2.2.2.1 F0.2.2.2.2 1).bind fun F2 => (if F2 < 0 then (laws_FnExactLives.j0 k G0 O true g0 i0 l0 m0 n0) else ((laws_eqLifeS.f k O G0).bind fun G2 => (laws_FnExactLives.j0 k G0 O (!G2) g0 i0 l0 m0 n0)))) else (some false)))) else (some false))))))))) = some r := h
 clear h
 replace H := z6 H
 obtain ⟨U3, D8, H⟩ := H
 have A2 := zK D8
 clear D8
 by_cases c3 : U3 < 0
 rw [if_pos c3] at H
 have q6 := z1 c3
 clear c3
 obtain rfl := z5 H
 rotate_left
 rw [if_neg c3] at H
 have q6 := z2 c3
 clear c3
 replace H := z6 H
 obtain ⟨⟨G1, I1, N2, O2, J1⟩, E8, H⟩ := H
 replace H : ((spec_Lives.f k G1 I1 N2 O2 J1).bind fun G0 => ((laws_toNest.f k g0 i0 l0 m0 n0).bind fun F0 => ((impl_Lives.f k F0.1 F0.2.1 F0.2.2.1 F0.2.2.2.1 F0.2.2.2.2).bind fun O => ((laws_eqLifeS.f k O G0).bind fun n3 => (if n3 = true then ((laws_toNest.f k g0 i0 l0 m0 n0).bind fun g1 => ((laws_eqNest.f k F0.1 F0.2.1 F0.2.2.1 F0.2.2.2.1 F0.2.2.2.2 g1.1 g1.2.1 g1.2.2.1 g1.2.2.2.1 g1.2.2.2.2).bind fun M2 => (if M2 = true then ((laws_markNest.f F0.1 F0.2.1 F0.2.2.1 F0.2.2.2.1 F0.2.2.2.2 1).bind fun F2 => (if F2 < 0 then (laws_FnExactLives.j0 k G0 O true g0 i0 l0 m0 n0) else ((laws_eqLifeS.f k O G0).bind fun G2 => (laws_FnExactLives.j0 k G0 O (!G2) g0 i0 l0 m0 n0)))) else (some false)))) else (some false)))))) = some r := H
 have A7 := zK E8
 clear E8
 replace H := z6 H
 obtain ⟨G0, F8, H⟩ := H
 have A8 := zK F8
 clear F8
 replace H := z6 H
 obtain ⟨⟨S0, T0, e1, f1, U0⟩, G8, H⟩ := H
 replace H : ((impl_Lives.f k S0 T0 e1 f1 U0).bind fun O => ((laws_eqLifeS.f k O G0).bind fun n3 => (if n3 = true then ((laws_toNest.f k g0 i0 l0 m0 n0).bind fun g1 => ((laws_eqNest.f k S0 T0 e1 f1 U0 g1.1 g1.2.1 g1.2.2.1 g1.2.2.2.1 g1.2.2.2.2).bind fun M2 => (if M2 = true then ((laws_markNest.f S0 T0 e1 f1 U0 1).bind fun F2 => (if F2 < 0 then (laws_FnExactLives.j0 k G0 O true g0 i0 l0 m0 n0) else ((laws_eqLifeS.f k O G0).bind fun G2 => (laws_FnExactLives.j0 k G0 O (!G2) g0 i0 l0 m0 n0)))) else (some false)))) else (some false)))) = some r := H
 have A9 := zK G8
 clear G8
 replace H := z6 H
 obtain ⟨O, t6, H⟩ := H
 have I8 := zK t6
 clear t6
 replace H := z6 H
 obtain ⟨n3, x6, H⟩ := H
 have J8 := zK x6
 clear x6
 rcases zN (n3 = true) with f4 | f4
 replace f4 := Bool.eq_false_iff.mpr f4
 subst f4
 rw [if_neg (show ¬ (false = true) by decide)] at H
 obtain rfl := z5 H
 rotate_left
 subst f4
 rw [if_pos rfl] at H
 replace H := z6 H
 obtain ⟨⟨o3, p3, q3, t3, x3⟩, y6, H⟩ := H
 replace H : ((laws_eqNest.f k S0 T0 e1 f1 U0 o3 p3 q3 t3 x3).bind fun M2 => (if M2 = true then ((laws_markNest.f S0 T0 e1 f1 U0 1).bind fun F2 => (if F2 < 0 then (laws_FnExactLives.j0 k G0 O true g0 i0 l0 m0 n0) else ((laws_eqLifeS.f k O G0).bind fun G2 => (laws_FnExactLives.j0 k G0 O (!G2) g0 i0 l0 m0 n0)))) else (some false))) = some r := H
 have L8 := zK y6
 clear y6
 replace H := z6 H
 obtain ⟨M2, A6, H⟩ := H
 have M8 := zK A6
 clear A6
 by_cases m4 : M2 = true
 rotate_left
 · replace m4 := Bool.eq_false_iff.mpr m4
   subst m4
   rw [if_neg (show ¬ (false = true) by decide)] at H
   obtain rfl := z5 H
   go_enter Try.func4, Try.ntmps4
   try go_wp2_with (first | ((with_reducible refine gd 1 rfl ?_); refine zJ 1 #[.slice q1 g0.length t1, .slice x1 i0.length y1, .slice A1 l0.length B1, .slice C1 m0.length D1, .slice E1 n0.length F1] 26 ?_; intro c2 hg a7d hbox hb; have a0 := z8 hb; have b0 := zK (hbox); have c0 := z9 hg; have d0 := z9 hg; revert a0 b0 c0 d0; clear HB; intro HB l a7 R2; clear hb hbox hg; obtain ⟨N8, O8, R8, S8, T8, U8, V8, X8, a9, b9⟩ := zc5 l) | ((with_reducible refine gc 10 rfl ?_); refine zF 13 Try.func10 #[.agg #[.slice q1 g0.length t1, .slice x1 i0.length y1, .slice A1 l0.length B1, .slice C1 m0.length D1, .slice E1 n0.length F1], .int .i64 1048576] rfl zL ?_; refine (laws_szNest.calls k _ _ g0 _ _ i0 _ _ l0 _ _ m0 _ _ n0 1048576 U3 _ (zS N1) O1.out (zS R1) S1.out (zS T1) U1.out (zS V1) X1.out (zS a2) b2.out A2.out).mono ?_; rintro e a7e ⟨rfl, hb⟩; refine ⟨_, rfl, ?_⟩; have a0 := z7 l hb; have b0 := z8 hb; revert a0 b0; clear l HB; intro l HB; obtain ⟨c9, d9, e9, f9, g9, i9, j9, l9, m9, n9⟩ := zc5 l) | ((with_reducible refine gc 12 rfl ?_); refine zF 17 Try.func12 #[.agg #[.slice q1 g0.length t1, .slice x1 i0.length y1, .slice A1 l0.length B1, .slice C1 m0.length D1, .slice E1 n0.length F1]] rfl zL ?_; refine (laws_toNest.calls k _ _ g0 _ _ i0 _ _ l0 _ _ m0 _ _ n0 G1 I1 N2 O2 J1 _ (zS N1) O1.out (zS R1) S1.out (zS T1) U1.out (zS V1) X1.out (zS a2) b2.out A7.out).mono ?_; rintro e a7f ⟨v454, v457, v460, v463, v466, rfl, e0, I0, o1, p1, J0, hb⟩; refine ⟨_, rfl, ?_⟩; have a0 := zK (Kd.R_lower e0 (zz zB)); have b0 := zK (Kd.R_lower I0 (zz zB)); have c0 := zK (Kd.S_lower o1 (zz zB)); have d0 := zK (Kd.R_lower p1 (zz zB)); have y0 := zK (Kd.R_lower J0 (zz zB)); have A0 := z7 l hb; have B0 := z8 hb; revert a0 b0 c0 d0 y0 A0 B0; clear l HB; intro y z B E A l HB; obtain ⟨e3, f3, b7⟩ := Kd.R_slice y.out; subst b7; obtain ⟨g3, i3, c7⟩ := Kd.R_slice z.out; subst c7; obtain ⟨F4, G4, d7⟩ := Kd.S_slice B.out; subst d7; obtain ⟨I4, J4, e7⟩ := Kd.R_slice E.out; subst e7; obtain ⟨j3, l3, f7⟩ := Kd.R_slice A.out; subst f7) | ((with_reducible refine gc 11 rfl ?_); refine zF 18 Try.func11 #[.agg #[.slice e3 G1.length f3, .slice g3 I1.length i3, .slice F4 N2.length G4, .slice I4 O2.length J4, .slice j3 J1.length l3]] rfl zL ?_; refine (spec_Lives.calls k _ _ G1 _ _ I1 _ _ N2 _ _ O2 _ _ J1 G0 _ (zC (Kd.R_reads' y.out).2.2) ((Kd.R_reads' y.out).2.1) (zC (Kd.R_reads' z.out).2.2) ((Kd.R_reads' z.out).2.1) (zC (Kd.S_reads' B.out).2.2) ((Kd.S_reads' B.out).2.1) (zC (Kd.R_reads' E.out).2.2) ((Kd.R_reads' E.out).2.1) (zC (Kd.R_reads' A.out).2.2) ((Kd.R_reads' A.out).2.1) A8.out).mono ?_; rintro e a7g ⟨v469, rfl, e0, hb⟩; refine ⟨_, rfl, ?_⟩; have a0 := zK (Kd.R_below (zkR y) hb); have b0 := zK (Kd.R_below (zkR z) hb); have c0 := zK (Kd.S_below (zkS B) hb); have d0 := zK (Kd.R_below (zkR E) hb); have y0 := zK (Kd.R_below (zkR A) hb); have A0 := zK (Kd.R_lower e0 (zz zB)); have B0 := z7 l hb; have D0 := z8 hb; revert a0 b0 c0 d0 y0 A0 B0 D0; clear y z B E A l HB; intro y z B E A M l HB; obtain ⟨o9, p9, q9, t9, x9, y9, B9, C9, D9, E9⟩ := zc5 l) | ((with_reducible refine gc 12 rfl ?_); refine zF 20 Try.func12 #[.agg #[.slice q1 g0.length t1, .slice x1 i0.length y1, .slice A1 l0.length B1, .slice C1 m0.length D1, .slice E1 n0.length F1]] rfl zL ?_; refine (laws_toNest.calls k _ _ g0 _ _ i0 _ _ l0 _ _ m0 _ _ n0 S0 T0 e1 f1 U0 _ (zS N1) O1.out (zS R1) S1.out (zS T1) U1.out (zS V1) X1.out (zS a2) b2.out A9.out).mono ?_; rintro e a7j ⟨v472, v475, v478, v481, v484, rfl, e0, I0, o1, p1, J0, hb⟩; refine ⟨_, rfl, ?_⟩; have a0 := zK (Kd.R_mono (Kd.R_told (Kd.R_told (Kd.R_told (Kd.R_old (zkR y) hb) (Kd.R_base e0)) (Kd.R_base I0)) (Kd.R_base J0)) (fun _ h_ => h_.1)); have b0 := zK (Kd.R_mono (Kd.R_told (Kd.R_told (Kd.R_told (Kd.R_old (zkR z) hb) (Kd.R_base e0)) (Kd.R_base I0)) (Kd.R_base J0)) (fun _ h_ => h_.1)); have c0 := zK (Kd.S_mono (Kd.S_told (Kd.S_told (Kd.S_told (Kd.S_told (Kd.S_old (zkS B) hb) (Kd.R_base e0)) (Kd.R_base I0)) (Kd.S_base o1)) (Kd.R_base J0)) (fun _ h_ => h_.1)); have d0 := zK (Kd.R_mono (Kd.R_told (Kd.R_told (Kd.R_told (Kd.R_told (Kd.R_old (zkR E) hb) (Kd.R_base e0)) (Kd.R_base I0)) (Kd.R_base p1)) (Kd.R_base J0)) (fun _ h_ => h_.1)); have y0 := zK (Kd.R_mono (Kd.R_told (Kd.R_told (Kd.R_told (Kd.R_old (zkR A) hb) (Kd.R_base e0)) (Kd.R_base I0)) (Kd.R_base J0)) (fun _ h_ => h_.1)); have A0 := zK (Kd.R_below (zkR M) hb); have B0 := zK (Kd.R_lower (Kd.R_new' (Kd.R_new' (Kd.R_new' e0 (Kd.R_lt (zkR y))) (Kd.R_lt (zkR z))) (Kd.R_lt (zkR A))) (zz zB)); have D0 := zK (Kd.R_lower (Kd.R_new' (Kd.R_new' (Kd.R_new' I0 (Kd.R_lt (zkR y))) (Kd.R_lt (zkR z))) (Kd.R_lt (zkR A))) (zz zB)); have E0 := zK (Kd.S_lower (Kd.S_new' (Kd.S_new' (Kd.S_new' (Kd.S_new' o1 (Kd.R_lt (zkR y))) (Kd.R_lt (zkR z))) (Kd.S_lt (zkS B))) (Kd.R_lt (zkR A))) (zz zB)); have R0 := zK (Kd.R_lower (Kd.R_new' (Kd.R_new' (Kd.R_new' (Kd.R_new' p1 (Kd.R_lt (zkR y))) (Kd.R_lt (zkR z))) (Kd.R_lt (zkR E))) (Kd.R_lt (zkR A))) (zz zB)); have V0 := zK (Kd.R_lower (Kd.R_new' (Kd.R_new' (Kd.R_new' J0 (Kd.R_lt (zkR y))) (Kd.R_lt (zkR z))) (Kd.R_lt (zkR A))) (zz zB)); have X0 := z7 l hb; have a1 := z8 hb; revert a0 b0 c0 d0 y0 A0 B0 D0 E0 R0 V0 X0 a1; clear y z B E A M l HB; intro y z B E A M I J T U L l HB) | ((with_reducible refine gd 5 rfl ?_); refine zJ 5 #[.slice none 0 0, .slice none 0 0, .slice none 0 0, .slice none 0 0, .slice none 0 0] 34 ?_; intro L1 hg a7l hbox hb; have a0 := zK (Kd.R_below (zkR y) hb); have b0 := zK (Kd.R_below (zkR z) hb); have c0 := zK (Kd.S_below (zkS B) hb); have d0 := zK (Kd.R_below (zkR E) hb); have y0 := zK (Kd.R_below (zkR A) hb); have A0 := zK (Kd.R_below (zkR M) hb); have B0 := zK (Kd.R_below (zkR I) hb); have D0 := zK (Kd.R_below (zkR J) hb); have E0 := zK (Kd.S_below (zkS T) hb); have R0 := zK (Kd.R_below (zkR U) hb); have V0 := zK (Kd.R_below (zkR L) hb); have X0 := z7 l hb; have a1 := z8 hb; have b1 := zK (hbox); have d1 := z9 hg; have d2 := z9 hg; have e2 := zHH hg l; have f2 := zGG hg l; revert a0 b0 c0 d0 y0 A0 B0 D0 E0 R0 V0 X0 a1 b1 d1 d2 e2 f2; clear y z B E A M I J T U L l HB; intro y z B E A M I J T U L l HB q g7 i7 b3 d3; clear hb hbox hg; obtain ⟨C2, o2, j7⟩ := Kd.R_slice I.out; subst j7; have a6e := d3.out; have a6f := b3.out; obtain ⟨F9, G9, I9, J9, L9, M9, N9, O9, R9, S9⟩ := zc5 q; obtain ⟨D2, q2, l7⟩ := Kd.R_slice J.out; subst l7; obtain ⟨S3, C3, m7⟩ := Kd.S_slice T.out; subst m7; obtain ⟨T3, D3, n7⟩ := Kd.R_slice U.out; subst n7; obtain ⟨E2, t2, o7⟩ := Kd.R_slice L.out; subst o7) | ((with_reducible refine gc 13 rfl ?_); refine zF 22 Try.func13 #[.agg #[.slice C2 S0.length o2, .slice D2 T0.length q2, .slice S3 e1.length C3, .slice T3 f1.length D3, .slice E2 U0.length t2]] rfl zL ?_; (with_reducible refine (impl_Lives.calls k _ _ S0 _ _ T0 _ _ e1 _ _ f1 _ _ U0 O _ ?side1 ?side2 ?side3 ?side4 ?side5 ?side6 ?side7 ?side8 ?side9 ?side10 I8.out).mono ?_); (case side1 => refine (Kd.R_reads' (e := 3) (base := w.heap.size) (ok := fun k_ => ((((some k_ ≠ (.slice D2 T0.length q2 : Value).ownBlock ∧ some k_ ≠ (.slice E2 U0.length t2 : Value).ownBlock) ∧ some k_ ≠ (.slice e3 G1.length f3 : Value).ownBlock) ∧ some k_ ≠ (.slice g3 I1.length i3 : Value).ownBlock) ∧ some k_ ≠ (.slice j3 J1.length l3 : Value).ownBlock)) (n := S0.length) (c := o2) ?_).2.2; exact (Kd.R_mono (zlR (Kd.R_types I.out q.out (by decide))) (fun _ h_ => h_.1))); (case side2 => exact (Kd.R_reads' I.out).2.1); (case side3 => refine (Kd.R_reads' (e := 3) (base := w.heap.size) (ok := fun k_ => ((((some k_ ≠ (.slice C2 S0.length o2 : Value).ownBlock ∧ some k_ ≠ (.slice E2 U0.length t2 : Value).ownBlock) ∧ some k_ ≠ (.slice e3 G1.length f3 : Value).ownBlock) ∧ some k_ ≠ (.slice g3 I1.length i3 : Value).ownBlock) ∧ some k_ ≠ (.slice j3 J1.length l3 : Value).ownBlock)) (n := T0.length) (c := q2) ?_).2.2; exact (Kd.R_mono (zlR (Kd.R_types J.out q.out (by decide))) (fun _ h_ => h_.1))); (case side4 => exact (Kd.R_reads' J.out).2.1); (case side5 => refine (Kd.S_reads' (e := 71) (base := w.heap.size) (ok := fun k_ => (((((some k_ ≠ (.slice C2 S0.length o2 : Value).ownBlock ∧ (some k_ ≠ (.slice D2 T0.length q2 : Value).ownBlock ∧ some k_ ≠ (.slice E2 U0.length t2 : Value).ownBlock)) ∧ some k_ ≠ (.slice e3 G1.length f3 : Value).ownBlock) ∧ some k_ ≠ (.slice g3 I1.length i3 : Value).ownBlock) ∧ some k_ ≠ (.slice F4 N2.length G4 : Value).ownBlock) ∧ some k_ ≠ (.slice j3 J1.length l3 : Value).ownBlock)) (n := e1.length) (c := C3) ?_).2.2; exact (Kd.S_mono (zlS (Kd.S_types T.out q.out (by decide))) (fun _ h_ => h_.1))); (case side6 => exact (Kd.S_reads' T.out).2.1); (case side7 => refine (Kd.R_reads' (e := 79) (base := w.heap.size) (ok := fun k_ => (((((some k_ ≠ (.slice C2 S0.length o2 : Value).ownBlock ∧ (some k_ ≠ (.slice D2 T0.length q2 : Value).ownBlock ∧ some k_ ≠ (.slice E2 U0.length t2 : Value).ownBlock)) ∧ some k_ ≠ (.slice e3 G1.length f3 : Value).ownBlock) ∧ some k_ ≠ (.slice g3 I1.length i3 : Value).ownBlock) ∧ some k_ ≠ (.slice I4 O2.length J4 : Value).ownBlock) ∧ some k_ ≠ (.slice j3 J1.length l3 : Value).ownBlock)) (n := f1.length) (c := D3) ?_).2.2; exact (Kd.R_mono (zlR (Kd.R_types U.out q.out (by decide))) (fun _ h_ => h_.1))); (case side8 => exact (Kd.R_reads' U.out).2.1); (case side9 => refine (Kd.R_reads' (e := 3) (base := w.heap.size) (ok := fun k_ => ((((some k_ ≠ (.slice C2 S0.length o2 : Value).ownBlock ∧ some k_ ≠ (.slice D2 T0.length q2 : Value).ownBlock) ∧ some k_ ≠ (.slice e3 G1.length f3 : Value).ownBlock) ∧ some k_ ≠ (.slice g3 I1.length i3 : Value).ownBlock) ∧ some k_ ≠ (.slice j3 J1.length l3 : Value).ownBlock)) (n := U0.length) (c := t2) ?_).2.2; exact (Kd.R_mono (zlR (Kd.R_types L.out q.out (by decide))) (fun _ h_ => h_.1))); (case side10 => exact (Kd.R_reads' L.out).2.1); rintro e a7m ⟨v488, rfl, e0, hb⟩; refine ⟨_, rfl, ?_⟩; have a0 := zK (Kd.R_below (Kd.R_mono (zlR (Kd.R_types y.out q.out (by decide))) (fun _ h_ => h_.1)) hb); have b0 := zK (Kd.R_below (Kd.R_mono (zlR (Kd.R_types z.out q.out (by decide))) (fun _ h_ => h_.1)) hb); have c0 := zK (Kd.S_below (Kd.S_mono (zlS (Kd.S_types B.out q.out (by decide))) (fun _ h_ => h_.1)) hb); have d0 := zK (Kd.R_below (Kd.R_mono (zlR (Kd.R_types E.out q.out (by decide))) (fun _ h_ => h_.1)) hb); have y0 := zK (Kd.R_below (Kd.R_mono (zlR (Kd.R_types A.out q.out (by decide))) (fun _ h_ => h_.1)) hb); have A0 := zK (Kd.R_elder' (Kd.R_mono (zlR (Kd.R_types M.out q.out (by decide))) (fun _ h_ => h_.1)) (Kd.R_base e0) hb); have B0 := zK (Kd.R_below (Kd.R_mono (zlR (Kd.R_types I.out q.out (by decide))) (fun _ h_ => h_.1)) hb); have D0 := zK (Kd.R_below (Kd.R_mono (zlR (Kd.R_types J.out q.out (by decide))) (fun _ h_ => h_.1)) hb); have E0 := zK (Kd.S_below (Kd.S_mono (zlS (Kd.S_types T.out q.out (by decide))) (fun _ h_ => h_.1)) hb); have R0 := zK (Kd.R_below (Kd.R_mono (zlR (Kd.R_types U.out q.out (by decide))) (fun _ h_ => h_.1)) hb); have V0 := zK (Kd.R_below (Kd.R_mono (zlR (Kd.R_types L.out q.out (by decide))) (fun _ h_ => h_.1)) hb); have X0 := zK (Kd.R_lower (Kd.R_new' e0 (Kd.R_lt (Kd.R_mono (zlR (Kd.R_types M.out q.out (by decide))) (fun _ h_ => h_.1)))) (zz zB)); have a1 := zK (zg (zV l) hb); have b1 := zK (zg (g := L1) (o := .cells #[.slice C2 S0.length o2, .slice D2 T0.length q2, .slice S3 e1.length C3, .slice T3 f1.length D3, .slice E2 U0.length t2] 34 (0, 0)) (zW q) hb); have d1 := z8 hb; revert a0 b0 c0 d0 y0 A0 B0 D0 E0 R0 V0 X0 a1 b1 d1; clear y z B E A M I J T U L l q HB; intro y z B E A M I J T U L f0 l q HB; obtain ⟨p7, q7, t7⟩ := Kd.R_slice f0.out; subst t7; obtain ⟨x7, y7, B7⟩ := Kd.R_slice M.out; subst B7) | ((with_reducible refine gc 14 rfl ?_); refine zF 25 Try.func14 #[.slice p7 O.length q7, .slice x7 G0.length y7] rfl zL ?_; refine (laws_eqLifeS.calls k _ _ O _ _ G0 true _ (zC (Kd.R_reads' f0.out).2.2) ((Kd.R_reads' f0.out).2.1) (zC (Kd.R_reads' M.out).2.2) ((Kd.R_reads' M.out).2.1) J8.out).mono ?_; rintro e T9 ⟨rfl, hb⟩; refine ⟨_, rfl, ?_⟩; have a0 := zK (Kd.R_below (zkR y) hb); have b0 := zK (Kd.R_below (zkR z) hb); have c0 := zK (Kd.S_below (zkS B) hb); have d0 := zK (Kd.R_below (zkR E) hb); have y0 := zK (Kd.R_below (zkR A) hb); have A0 := zK (Kd.R_below (zkR M) hb); have B0 := zK (Kd.R_below (zkR I) hb); have D0 := zK (Kd.R_below (zkR J) hb); have E0 := zK (Kd.S_below (zkS T) hb); have R0 := zK (Kd.R_below (zkR U) hb); have V0 := zK (Kd.R_below (zkR L) hb); have X0 := zK (Kd.R_below (zkR f0) hb); have a1 := z7 l hb; have b1 := z7 q hb; have d1 := z8 hb; revert a0 b0 c0 d0 y0 A0 B0 D0 E0 R0 V0 X0 a1 b1 d1; clear y z B E A M I J T U L f0 l q HB; intro y z B E A M I J T U L f0 l q HB))
   have a0 := zK (Kd.R_drew y.out)
   have b0 := zK (Kd.R_drew z.out)
   have c0 := zK (Kd.S_drew B.out)
   have d0 := zK (Kd.R_drew E.out)
   have y0 := zK (Kd.R_drew A.out)
   have A0 := zK (Kd.R_drew M.out)
   have B0 := zK (Kd.R_drew I.out)
   have D0 := zK (Kd.R_drew J.out)
   have E0 := zK (Kd.S_drew T.out)
   have R0 := zK (Kd.R_drew U.out)
   have V0 := zK (Kd.R_drew L.out)
   have X0 := zK (Kd.R_drew f0.out)
   have a1 := zK (zd l.out)
   have b1 := zK (zd q.out)
   have d1 := zK (ze HB.out)
   revert a0 b0 c0 d0 y0 A0 B0 D0 E0 R0 V0 X0 a1 b1 d1
   clear y z B E A M I J T U L f0 l q HB
   intro y z B E A M I J T U L f0 l q HB
   refine start_ (n := 5) (S := fun w' => w'.cell? ⟨L1, 0, none⟩ = some (.slice C2 S0.length o2) ∧ w'.cell? ⟨L1, 1, none⟩ = some (.slice D2 T0.length q2) ∧ w'.cell? ⟨L1, 2, none⟩ = some (.slice S3 e1.length C3) ∧ w'.cell? ⟨L1, 3, none⟩ = some (.slice T3 f1.length D3) ∧ w'.cell? ⟨L1, 4, none⟩ = some (.slice E2 U0.length t2) ∧ w'.cell? ⟨c2, 0, none⟩ = some (.slice q1 g0.length t1) ∧ w'.cell? ⟨c2, 1, none⟩ = some (.slice x1 i0.length y1) ∧ w'.cell? ⟨c2, 2, none⟩ = some (.slice A1 l0.length B1) ∧ w'.cell? ⟨c2, 3, none⟩ = some (.slice C1 m0.length D1) ∧ w'.cell? ⟨c2, 4, none⟩ = some (.slice E1 n0.length F1)) (ds := []) (bl 5 0) (by kernel_rfl) rfl (by kernel_rfl) ⟨zy q 0, zy q 1, zy q 2, zy q 3, zy q 4, zy l 0, zy l 1, zy l 2, zy l 3, zy l 4⟩ (fun hHeld => ?_)
   generalize T9.drew = a7n at y z B E A M I J T U L f0 l q HB hHeld ⊢
   refine take_ (i := 0) (N := some 27) (v := ?_) (a' := ?_) (bl 5 1) rfl rfl (by kernel_rfl) (fun _ _ _ h => h) (Or.inl ⟨by rfl, ?_⟩) hHeld ?_ ?_
   rotate_left
   · rintro w' ⟨s0, s1, s2, s3, s4, s5, s6, s7, s8, s9⟩
     go_simp
     with_reducible rfl
   rotate_left
   · simp only [Act.put, zq1, zq2, zq3, i64_w, i32_w]
     rfl
   refine take_ (i := 1) (N := some 28) (v := ?_) (a' := ?_) (bl 5 3) rfl rfl (by kernel_rfl) (fun _ _ _ h => h) (Or.inl ⟨by rfl, ?_⟩) hHeld ?_ ?_
   rotate_left
   · rintro w' ⟨s0, s1, s2, s3, s4, s5, s6, s7, s8, s9⟩
     go_simp
     with_reducible rfl
   rotate_left
   · simp only [Act.put, zq1, zq2, zq3, i64_w, i32_w]
     rfl
   refine one_ (i := 2) (N := some 29) (bl 5 7) rfl rfl (by kernel_rfl) (by decide) (fun K hK => ?_)
   refine goes_ Try.func12 (by kernel_rfl) rfl #[.agg #[.slice q1 g0.length t1, .slice x1 i0.length y1, .slice A1 l0.length B1, .slice C1 m0.length D1, .slice E1 n0.length F1]] (by rfl) rfl rfl zL ?_
   refine (laws_toNest.calls k _ _ g0 _ _ i0 _ _ l0 _ _ m0 _ _ n0 o3 p3 q3 t3 x3 _ (zS N1) O1.out (zS R1) S1.out (zS T1) U1.out (zS V1) X1.out (zS a2) b2.out L8.out).mono ?_
   rintro e a7o ⟨v492, v495, v498, v501, v504, rfl, e0, I0, o1, p1, J0, hb⟩
   refine ⟨_, rfl, ?_⟩
   have a0 := zK (Kd.R_mono (Kd.R_told (Kd.R_told (Kd.R_told (Kd.R_old (zkR y) hb) (Kd.R_base e0)) (Kd.R_base I0)) (Kd.R_base J0)) (fun _ h_ => h_.1))
   have b0 := zK (Kd.R_mono (Kd.R_told (Kd.R_told (Kd.R_told (Kd.R_old (zkR z) hb) (Kd.R_base e0)) (Kd.R_base I0)) (Kd.R_base J0)) (fun _ h_ => h_.1))
   have c0 := zK (Kd.S_mono (Kd.S_told (Kd.S_told (Kd.S_told (Kd.S_told (Kd.S_old (zkS B) hb) (Kd.R_base e0)) (Kd.R_base I0)) (Kd.S_base o1)) (Kd.R_base J0)) (fun _ h_ => h_.1))
   have d0 := zK (Kd.R_mono (Kd.R_told (Kd.R_told (Kd.R_told (Kd.R_told (Kd.R_old (zkR E) hb) (Kd.R_base e0)) (Kd.R_base I0)) (Kd.R_base p1)) (Kd.R_base J0)) (fun _ h_ => h_.1))
   have y0 := zK (Kd.R_mono (Kd.R_told (Kd.R_told (Kd.R_told (Kd.R_old (zkR A) hb) (Kd.R_base e0)) (Kd.R_base I0)) (Kd.R_base J0)) (fun _ h_ => h_.1))
   have A0 := zK (Kd.R_below (zkR M) hb)
   have B0 := zK (Kd.R_mono (Kd.R_told (Kd.R_told (Kd.R_told (Kd.R_old (zkR I) hb) (Kd.R_base e0)) (Kd.R_base I0)) (Kd.R_base J0)) (fun _ h_ => h_.1))
   have D0 := zK (Kd.R_mono (Kd.R_told (Kd.R_told (Kd.R_told (Kd.R_old (zkR J) hb) (Kd.R_base e0)) (Kd.R_base I0)) (Kd.R_base J0)) (fun _ h_ => h_.1))
   have E0 := zK (Kd.S_mono (Kd.S_told (Kd.S_told (Kd.S_told (Kd.S_told (Kd.S_old (zkS T) hb) (Kd.R_base e0)) (Kd.R_base I0)) (Kd.S_base o1)) (Kd.R_base J0)) (fun _ h_ => h_.1))
   have R0 := zK (Kd.R_mono (Kd.R_told (Kd.R_told (Kd.R_told (Kd.R_told (Kd.R_old (zkR U) hb) (Kd.R_base e0)) (Kd.R_base I0)) (Kd.R_base p1)) (Kd.R_base J0)) (fun _ h_ => h_.1))
   have V0 := zK (Kd.R_mono (Kd.R_told (Kd.R_told (Kd.R_told (Kd.R_old (zkR L) hb) (Kd.R_base e0)) (Kd.R_base I0)) (Kd.R_base J0)) (fun _ h_ => h_.1))
   have X0 := zK (Kd.R_below (zkR f0) hb)
   have a1 := zK (Kd.R_lower (Kd.R_new' (Kd.R_new' (Kd.R_new' (Kd.R_new' (Kd.R_new' (Kd.R_new' e0 (Kd.R_lt (zkR y))) (Kd.R_lt (zkR z))) (Kd.R_lt (zkR A))) (Kd.R_lt (zkR I))) (Kd.R_lt (zkR J))) (Kd.R_lt (zkR L))) (zz zB))
   have b1 := zK (Kd.R_lower (Kd.R_new' (Kd.R_new' (Kd.R_new' (Kd.R_new' (Kd.R_new' (Kd.R_new' I0 (Kd.R_lt (zkR y))) (Kd.R_lt (zkR z))) (Kd.R_lt (zkR A))) (Kd.R_lt (zkR I))) (Kd.R_lt (zkR J))) (Kd.R_lt (zkR L))) (zz zB))
   have d1 := zK (Kd.S_lower (Kd.S_new' (Kd.S_new' (Kd.S_new' (Kd.S_new' (Kd.S_new' (Kd.S_new' (Kd.S_new' (Kd.S_new' o1 (Kd.R_lt (zkR y))) (Kd.R_lt (zkR z))) (Kd.S_lt (zkS B))) (Kd.R_lt (zkR A))) (Kd.R_lt (zkR I))) (Kd.R_lt (zkR J))) (Kd.S_lt (zkS T))) (Kd.R_lt (zkR L))) (zz zB))
   have d2 := zK (Kd.R_lower (Kd.R_new' (Kd.R_new' (Kd.R_new' (Kd.R_new' (Kd.R_new' (Kd.R_new' (Kd.R_new' (Kd.R_new' p1 (Kd.R_lt (zkR y))) (Kd.R_lt (zkR z))) (Kd.R_lt (zkR E))) (Kd.R_lt (zkR A))) (Kd.R_lt (zkR I))) (Kd.R_lt (zkR J))) (Kd.R_lt (zkR U))) (Kd.R_lt (zkR L))) (zz zB))
   have e2 := zK (Kd.R_lower (Kd.R_new' (Kd.R_new' (Kd.R_new' (Kd.R_new' (Kd.R_new' (Kd.R_new' J0 (Kd.R_lt (zkR y))) (Kd.R_lt (zkR z))) (Kd.R_lt (zkR A))) (Kd.R_lt (zkR I))) (Kd.R_lt (zkR J))) (Kd.R_lt (zkR L))) (zz zB))
   have f2 := z7 l hb
   have T2 := z7 q hb
   have U2 := z8 hb
   revert a0 b0 c0 d0 y0 A0 B0 D0 E0 R0 V0 X0 a1 b1 d1 d2 e2 f2 T2 U2
   clear y z B E A M I J T U L f0 l q HB
   intro y z B E A M I J T U L f0 i1 j1 l1 m1 n1 l q HB
   (try clear hb)
   (try clear hb2)
   (try clear hk)
   (try clear hi)
   (try clear e0)
   (try clear I0)
   (try clear o1)
   (try clear p1)
   (try clear J0)
   obtain ⟨C7, D7, L4⟩ := Kd.R_slice i1.out
   (first | subst L4 | (injection L4 with f1_ f2_ f3_; have f4_ := f1_.symm; have f5_ := f3_.symm; clear f1_ f2_ f3_; subst f4_; subst f5_))
   obtain ⟨E7, F7, M4⟩ := Kd.R_slice j1.out
   (first | subst M4 | (injection M4 with f1_ f2_ f3_; have f4_ := f1_.symm; have f5_ := f3_.symm; clear f1_ f2_ f3_; subst f4_; subst f5_))
   obtain ⟨G7, I7, N4⟩ := Kd.S_slice l1.out
   (first | subst N4 | (injection N4 with f1_ f2_ f3_; have f4_ := f1_.symm; have f5_ := f3_.symm; clear f1_ f2_ f3_; subst f4_; subst f5_))
   obtain ⟨J7, L7, O4⟩ := Kd.R_slice m1.out
   (first | subst O4 | (injection O4 with f1_ f2_ f3_; have f4_ := f1_.symm; have f5_ := f3_.symm; clear f1_ f2_ f3_; subst f4_; subst f5_))
   obtain ⟨M7, N7, R4⟩ := Kd.R_slice n1.out
   (first | subst R4 | (injection R4 with f1_ f2_ f3_; have f4_ := f1_.symm; have f5_ := f3_.symm; clear f1_ f2_ f3_; subst f4_; subst f5_))
   refine hK.out _ _ ⟨zy q 0, zy q 1, zy q 2, zy q 3, zy q 4, zy l 0, zy l 1, zy l 2, zy l 3, zy l 4⟩ (fun hHeld => ?_)
   clear hK K
   refine zU 29 ?_
   refine one_ (i := 3) (N := some 30) (bl 5 15) rfl rfl (by kernel_rfl) (by decide) (fun K hK => ?_)
   refine goes_ Try.func15 (by kernel_rfl) rfl #[.agg #[.slice C2 S0.length o2, .slice D2 T0.length q2, .slice S3 e1.length C3, .slice T3 f1.length D3, .slice E2 U0.length t2], .agg #[.slice C7 o3.length D7, .slice E7 p3.length F7, .slice G7 q3.length I7, .slice J7 t3.length L7, .slice M7 x3.length N7]] (by rfl) rfl rfl zL ?_
   refine (laws_eqNest.calls k _ _ S0 _ _ T0 _ _ e1 _ _ f1 _ _ U0 _ _ o3 _ _ p3 _ _ q3 _ _ t3 _ _ x3 false _ (zC (Kd.R_reads' I.out).2.2) ((Kd.R_reads' I.out).2.1) (zC (Kd.R_reads' J.out).2.2) ((Kd.R_reads' J.out).2.1) (zC (Kd.S_reads' T.out).2.2) ((Kd.S_reads' T.out).2.1) (zC (Kd.R_reads' U.out).2.2) ((Kd.R_reads' U.out).2.1) (zC (Kd.R_reads' L.out).2.2) ((Kd.R_reads' L.out).2.1) (zC (Kd.R_reads' i1.out).2.2) ((Kd.R_reads' i1.out).2.1) (zC (Kd.R_reads' j1.out).2.2) ((Kd.R_reads' j1.out).2.1) (zC (Kd.S_reads' l1.out).2.2) ((Kd.S_reads' l1.out).2.1) (zC (Kd.R_reads' m1.out).2.2) ((Kd.R_reads' m1.out).2.1) (zC (Kd.R_reads' n1.out).2.2) ((Kd.R_reads' n1.out).2.1) M8.out).mono ?_
   rintro e a7p ⟨rfl, hb⟩
   refine ⟨_, rfl, ?_⟩
   have a0 := zK (Kd.R_below (zkR y) hb)
   have b0 := zK (Kd.R_below (zkR z) hb)
   have c0 := zK (Kd.S_below (zkS B) hb)
   have d0 := zK (Kd.R_below (zkR E) hb)
   have y0 := zK (Kd.R_below (zkR A) hb)
   have A0 := zK (Kd.R_below (zkR M) hb)
   have B0 := zK (Kd.R_below (zkR I) hb)
   have D0 := zK (Kd.R_below (zkR J) hb)
   have E0 := zK (Kd.S_below (zkS T) hb)
   have R0 := zK (Kd.R_below (zkR U) hb)
   have V0 := zK (Kd.R_below (zkR L) hb)
   have X0 := zK (Kd.R_below (zkR f0) hb)
   have a1 := zK (Kd.R_below (zkR i1) hb)
   have b1 := zK (Kd.R_below (zkR j1) hb)
   have d1 := zK (Kd.S_below (zkS l1) hb)
   have d2 := zK (Kd.R_below (zkR m1) hb)
   have e2 := zK (Kd.R_below (zkR n1) hb)
   have f2 := z7 l hb
   have T2 := z7 q hb
   have U2 := z8 hb
   revert a0 b0 c0 d0 y0 A0 B0 D0 E0 R0 V0 X0 a1 b1 d1 d2 e2 f2 T2 U2
   clear y z B E A M I J T U L f0 i1 j1 l1 m1 n1 l q HB
   intro y z B E A M I J T U L f0 i1 j1 l1 m1 n1 l q HB
   (try clear hb)
   (try clear hb2)
   (try clear hk)
   (try clear hi)
   refine hK.out _ _ ⟨zy q 0, zy q 1, zy q 2, zy q 3, zy q 4, zy l 0, zy l 1, zy l 2, zy l 3, zy l 4⟩ (fun hHeld => ?_)
   clear hK K
   refine zU 30 ?_
   refine pure_ (i := 4) (N := some 31) (v := ?_) (a' := ?_) (bl 5 31) rfl rfl (by kernel_rfl) (fun _ _ _ h => h) (Or.inl ⟨by rfl, ?_⟩) ?_ ?_
   rotate_left
   · intro w'
     go_simp
     with_reducible rfl
   rotate_left
   · simp only [Act.put, zq1, zq2, zq3, i64_w, i32_w]
     rfl
   refine done_ (by kernel_rfl) ?_
   try go_wp2
   go_ret
   exact ⟨zE, zB⟩
 rotate_right
 subst m4
 rw [if_pos rfl] at H
 replace H := z6 H
 obtain ⟨F2, B6, H⟩ := H
 have A16 := zK B6
 clear B6
 have o4 := zK H
 clear H
 all_goals go_enter Try.func4, Try.ntmps4
 all_goals try go_wp2_with (first | ((with_reducible refine gd 1 rfl ?_); refine zJ 1 #[.slice q1 g0.length t1, .slice x1 i0.length y1, .slice A1 l0.length B1, .slice C1 m0.length D1, .slice E1 n0.length F1] 26 ?_; intro c2 hg w18 hbox hb; have a0 := z8 hb; have b0 := zK (hbox); have c0 := z9 hg; have d0 := z9 hg; revert a0 b0 c0 d0; clear HB; intro HB l a7 R2; clear hb hbox hg; obtain ⟨a5, b5, d5, e5, f5, g5, i5, j5, l5, m5⟩ := zc5 l) | ((with_reducible refine gc 10 rfl ?_); refine zF 13 Try.func10 #[.agg #[.slice q1 g0.length t1, .slice x1 i0.length y1, .slice A1 l0.length B1, .slice C1 m0.length D1, .slice E1 n0.length F1], .int .i64 1048576] rfl zL ?_; refine (laws_szNest.calls k _ _ g0 _ _ i0 _ _ l0 _ _ m0 _ _ n0 1048576 U3 _ (zS N1) O1.out (zS R1) S1.out (zS T1) U1.out (zS V1) X1.out (zS a2) b2.out A2.out).mono ?_; rintro e w20 ⟨rfl, hb⟩; refine ⟨_, rfl, ?_⟩; have a0 := z7 l hb; have b0 := z8 hb; revert a0 b0; clear l HB; intro l HB; obtain ⟨n5, o5, p5, q5, t5, x5, y5, A5, B5, C5⟩ := zc5 l) | ((with_reducible refine gc 12 rfl ?_); refine zF 17 Try.func12 #[.agg #[.slice q1 g0.length t1, .slice x1 i0.length y1, .slice A1 l0.length B1, .slice C1 m0.length D1, .slice E1 n0.length F1]] rfl zL ?_; refine (laws_toNest.calls k _ _ g0 _ _ i0 _ _ l0 _ _ m0 _ _ n0 G1 I1 N2 O2 J1 _ (zS N1) O1.out (zS R1) S1.out (zS T1) U1.out (zS V1) X1.out (zS a2) b2.out A7.out).mono ?_; rintro e w22 ⟨v454, v457, v460, v463, v466, rfl, e0, I0, o1, p1, J0, hb⟩; refine ⟨_, rfl, ?_⟩; have a0 := zK (Kd.R_lower e0 (zz zB)); have b0 := zK (Kd.R_lower I0 (zz zB)); have c0 := zK (Kd.S_lower o1 (zz zB)); have d0 := zK (Kd.R_lower p1 (zz zB)); have y0 := zK (Kd.R_lower J0 (zz zB)); have A0 := z7 l hb; have B0 := z8 hb; revert a0 b0 c0 d0 y0 A0 B0; clear l HB; intro y z B E A l HB; obtain ⟨G3, I3, a0j⟩ := Kd.R_slice y.out; subst a0j; obtain ⟨J3, L3, a0l⟩ := Kd.R_slice z.out; subst a0l; obtain ⟨C6, D6, a0m⟩ := Kd.S_slice B.out; subst a0m; obtain ⟨E6, F6, a0n⟩ := Kd.R_slice E.out; subst a0n; obtain ⟨M3, N3, a0o⟩ := Kd.R_slice A.out; subst a0o) | ((with_reducible refine gc 11 rfl ?_); refine zF 18 Try.func11 #[.agg #[.slice G3 G1.length I3, .slice J3 I1.length L3, .slice C6 N2.length D6, .slice E6 O2.length F6, .slice M3 J1.length N3]] rfl zL ?_; refine (spec_Lives.calls k _ _ G1 _ _ I1 _ _ N2 _ _ O2 _ _ J1 G0 _ (zC (Kd.R_reads' y.out).2.2) ((Kd.R_reads' y.out).2.1) (zC (Kd.R_reads' z.out).2.2) ((Kd.R_reads' z.out).2.1) (zC (Kd.S_reads' B.out).2.2) ((Kd.S_reads' B.out).2.1) (zC (Kd.R_reads' E.out).2.2) ((Kd.R_reads' E.out).2.1) (zC (Kd.R_reads' A.out).2.2) ((Kd.R_reads' A.out).2.1) A8.out).mono ?_; rintro e w28 ⟨v469, rfl, e0, hb⟩; refine ⟨_, rfl, ?_⟩; have a0 := zK (Kd.R_below (zkR y) hb); have b0 := zK (Kd.R_below (zkR z) hb); have c0 := zK (Kd.S_below (zkS B) hb); have d0 := zK (Kd.R_below (zkR E) hb); have y0 := zK (Kd.R_below (zkR A) hb); have A0 := zK (Kd.R_lower e0 (zz zB)); have B0 := z7 l hb; have D0 := z8 hb; revert a0 b0 c0 d0 y0 A0 B0 D0; clear y z B E A l HB; intro y z B E A M l HB; obtain ⟨D5, E5, F5, G5, I5, J5, L5, M5, N5, O5⟩ := zc5 l) | ((with_reducible refine gc 12 rfl ?_); refine zF 20 Try.func12 #[.agg #[.slice q1 g0.length t1, .slice x1 i0.length y1, .slice A1 l0.length B1, .slice C1 m0.length D1, .slice E1 n0.length F1]] rfl zL ?_; refine (laws_toNest.calls k _ _ g0 _ _ i0 _ _ l0 _ _ m0 _ _ n0 S0 T0 e1 f1 U0 _ (zS N1) O1.out (zS R1) S1.out (zS T1) U1.out (zS V1) X1.out (zS a2) b2.out A9.out).mono ?_; rintro e w30 ⟨v472, v475, v478, v481, v484, rfl, e0, I0, o1, p1, J0, hb⟩; refine ⟨_, rfl, ?_⟩; have a0 := zK (Kd.R_mono (Kd.R_told (Kd.R_told (Kd.R_told (Kd.R_old (zkR y) hb) (Kd.R_base e0)) (Kd.R_base I0)) (Kd.R_base J0)) (fun _ h_ => h_.1)); have b0 := zK (Kd.R_mono (Kd.R_told (Kd.R_told (Kd.R_told (Kd.R_old (zkR z) hb) (Kd.R_base e0)) (Kd.R_base I0)) (Kd.R_base J0)) (fun _ h_ => h_.1)); have c0 := zK (Kd.S_mono (Kd.S_told (Kd.S_told (Kd.S_told (Kd.S_told (Kd.S_old (zkS B) hb) (Kd.R_base e0)) (Kd.R_base I0)) (Kd.S_base o1)) (Kd.R_base J0)) (fun _ h_ => h_.1)); have d0 := zK (Kd.R_mono (Kd.R_told (Kd.R_told (Kd.R_told (Kd.R_told (Kd.R_old (zkR E) hb) (Kd.R_base e0)) (Kd.R_base I0)) (Kd.R_base p1)) (Kd.R_base J0)) (fun _ h_ => h_.1)); have y0 := zK (Kd.R_mono (Kd.R_told (Kd.R_told (Kd.R_told (Kd.R_old (zkR A) hb) (Kd.R_base e0)) (Kd.R_base I0)) (Kd.R_base J0)) (fun _ h_ => h_.1)); have A0 := zK (Kd.R_below (zkR M) hb); have B0 := zK (Kd.R_lower (Kd.R_new' (Kd.R_new' (Kd.R_new' e0 (Kd.R_lt (zkR y))) (Kd.R_lt (zkR z))) (Kd.R_lt (zkR A))) (zz zB)); have D0 := zK (Kd.R_lower (Kd.R_new' (Kd.R_new' (Kd.R_new' I0 (Kd.R_lt (zkR y))) (Kd.R_lt (zkR z))) (Kd.R_lt (zkR A))) (zz zB)); have E0 := zK (Kd.S_lower (Kd.S_new' (Kd.S_new' (Kd.S_new' (Kd.S_new' o1 (Kd.R_lt (zkR y))) (Kd.R_lt (zkR z))) (Kd.S_lt (zkS B))) (Kd.R_lt (zkR A))) (zz zB)); have R0 := zK (Kd.R_lower (Kd.R_new' (Kd.R_new' (Kd.R_new' (Kd.R_new' p1 (Kd.R_lt (zkR y))) (Kd.R_lt (zkR z))) (Kd.R_lt (zkR E))) (Kd.R_lt (zkR A))) (zz zB)); have V0 := zK (Kd.R_lower (Kd.R_new' (Kd.R_new' (Kd.R_new' J0 (Kd.R_lt (zkR y))) (Kd.R_lt (zkR z))) (Kd.R_lt (zkR A))) (zz zB)); have X0 := z7 l hb; have a1 := z8 hb; revert a0 b0 c0 d0 y0 A0 B0 D0 E0 R0 V0 X0 a1; clear y z B E A M l HB; intro y z B E A M I J T U L l HB) | ((with_reducible refine gd 5 rfl ?_); refine zJ 5 #[.slice none 0 0, .slice none 0 0, .slice none 0 0, .slice none 0 0, .slice none 0 0] 34 ?_; intro L1 hg w31 hbox hb; have a0 := zK (Kd.R_below (zkR y) hb); have b0 := zK (Kd.R_below (zkR z) hb); have c0 := zK (Kd.S_below (zkS B) hb); have d0 := zK (Kd.R_below (zkR E) hb); have y0 := zK (Kd.R_below (zkR A) hb); have A0 := zK (Kd.R_below (zkR M) hb); have B0 := zK (Kd.R_below (zkR I) hb); have D0 := zK (Kd.R_below (zkR J) hb); have E0 := zK (Kd.S_below (zkS T) hb); have R0 := zK (Kd.R_below (zkR U) hb); have V0 := zK (Kd.R_below (zkR L) hb); have X0 := z7 l hb; have a1 := z8 hb; have b1 := zK (hbox); have d1 := z9 hg; have d2 := z9 hg; have e2 := zHH hg l; have f2 := zGG hg l; revert a0 b0 c0 d0 y0 A0 B0 D0 E0 R0 V0 X0 a1 b1 d1 d2 e2 f2; clear y z B E A M I J T U L l HB; intro y z B E A M I J T U L l HB q g7 i7 b3 d3; clear hb hbox hg; obtain ⟨V2, I2, a0p⟩ := Kd.R_slice I.out; subst a0p; have a6z := d3.out; have a7a := b3.out; obtain ⟨R5, S5, T5, U5, V5, X5, a6, b6, c6, d6⟩ := zc5 q; obtain ⟨X2, J2, a0q⟩ := Kd.R_slice J.out; subst a0q; obtain ⟨V3, O3, a0s⟩ := Kd.S_slice T.out; subst a0s; obtain ⟨X3, R3, a0t⟩ := Kd.R_slice U.out; subst a0t; obtain ⟨a3, L2, a0u⟩ := Kd.R_slice L.out; subst a0u) | ((with_reducible refine gc 13 rfl ?_); refine zF 22 Try.func13 #[.agg #[.slice V2 S0.length I2, .slice X2 T0.length J2, .slice V3 e1.length O3, .slice X3 f1.length R3, .slice a3 U0.length L2]] rfl zL ?_; (with_reducible refine (impl_Lives.calls k _ _ S0 _ _ T0 _ _ e1 _ _ f1 _ _ U0 O _ ?side1 ?side2 ?side3 ?side4 ?side5 ?side6 ?side7 ?side8 ?side9 ?side10 I8.out).mono ?_); (case side1 => refine (Kd.R_reads' (e := 3) (base := w.heap.size) (ok := fun k_ => ((((some k_ ≠ (.slice X2 T0.length J2 : Value).ownBlock ∧ some k_ ≠ (.slice a3 U0.length L2 : Value).ownBlock) ∧ some k_ ≠ (.slice G3 G1.length I3 : Value).ownBlock) ∧ some k_ ≠ (.slice J3 I1.length L3 : Value).ownBlock) ∧ some k_ ≠ (.slice M3 J1.length N3 : Value).ownBlock)) (n := S0.length) (c := I2) ?_).2.2; exact (Kd.R_mono (zlR (Kd.R_types I.out q.out (by decide))) (fun _ h_ => h_.1))); (case side2 => exact (Kd.R_reads' I.out).2.1); (case side3 => refine (Kd.R_reads' (e := 3) (base := w.heap.size) (ok := fun k_ => ((((some k_ ≠ (.slice V2 S0.length I2 : Value).ownBlock ∧ some k_ ≠ (.slice a3 U0.length L2 : Value).ownBlock) ∧ some k_ ≠ (.slice G3 G1.length I3 : Value).ownBlock) ∧ some k_ ≠ (.slice J3 I1.length L3 : Value).ownBlock) ∧ some k_ ≠ (.slice M3 J1.length N3 : Value).ownBlock)) (n := T0.length) (c := J2) ?_).2.2; exact (Kd.R_mono (zlR (Kd.R_types J.out q.out (by decide))) (fun _ h_ => h_.1))); (case side4 => exact (Kd.R_reads' J.out).2.1); (case side5 => refine (Kd.S_reads' (e := 71) (base := w.heap.size) (ok := fun k_ => (((((some k_ ≠ (.slice V2 S0.length I2 : Value).ownBlock ∧ (some k_ ≠ (.slice X2 T0.length J2 : Value).ownBlock ∧ some k_ ≠ (.slice a3 U0.length L2 : Value).ownBlock)) ∧ some k_ ≠ (.slice G3 G1.length I3 : Value).ownBlock) ∧ some k_ ≠ (.slice J3 I1.length L3 : Value).ownBlock) ∧ some k_ ≠ (.slice C6 N2.length D6 : Value).ownBlock) ∧ some k_ ≠ (.slice M3 J1.length N3 : Value).ownBlock)) (n := e1.length) (c := O3) ?_).2.2; exact (Kd.S_mono (zlS (Kd.S_types T.out q.out (by decide))) (fun _ h_ => h_.1))); (case side6 => exact (Kd.S_reads' T.out).2.1); (case side7 => refine (Kd.R_reads' (e := 79) (base := w.heap.size) (ok := fun k_ => (((((some k_ ≠ (.slice V2 S0.length I2 : Value).ownBlock ∧ (some k_ ≠ (.slice X2 T0.length J2 : Value).ownBlock ∧ some k_ ≠ (.slice a3 U0.length L2 : Value).ownBlock)) ∧ some k_ ≠ (.slice G3 G1.length I3 : Value).ownBlock) ∧ some k_ ≠ (.slice J3 I1.length L3 : Value).ownBlock) ∧ some k_ ≠ (.slice E6 O2.length F6 : Value).ownBlock) ∧ some k_ ≠ (.slice M3 J1.length N3 : Value).ownBlock)) (n := f1.length) (c := R3) ?_).2.2; exact (Kd.R_mono (zlR (Kd.R_types U.out q.out (by decide))) (fun _ h_ => h_.1))); (case side8 => exact (Kd.R_reads' U.out).2.1); (case side9 => refine (Kd.R_reads' (e := 3) (base := w.heap.size) (ok := fun k_ => ((((some k_ ≠ (.slice V2 S0.length I2 : Value).ownBlock ∧ some k_ ≠ (.slice X2 T0.length J2 : Value).ownBlock) ∧ some k_ ≠ (.slice G3 G1.length I3 : Value).ownBlock) ∧ some k_ ≠ (.slice J3 I1.length L3 : Value).ownBlock) ∧ some k_ ≠ (.slice M3 J1.length N3 : Value).ownBlock)) (n := U0.length) (c := L2) ?_).2.2; exact (Kd.R_mono (zlR (Kd.R_types L.out q.out (by decide))) (fun _ h_ => h_.1))); (case side10 => exact (Kd.R_reads' L.out).2.1); rintro e w39 ⟨v488, rfl, e0, hb⟩; refine ⟨_, rfl, ?_⟩; have a0 := zK (Kd.R_below (Kd.R_mono (zlR (Kd.R_types y.out q.out (by decide))) (fun _ h_ => h_.1)) hb); have b0 := zK (Kd.R_below (Kd.R_mono (zlR (Kd.R_types z.out q.out (by decide))) (fun _ h_ => h_.1)) hb); have c0 := zK (Kd.S_below (Kd.S_mono (zlS (Kd.S_types B.out q.out (by decide))) (fun _ h_ => h_.1)) hb); have d0 := zK (Kd.R_below (Kd.R_mono (zlR (Kd.R_types E.out q.out (by decide))) (fun _ h_ => h_.1)) hb); have y0 := zK (Kd.R_below (Kd.R_mono (zlR (Kd.R_types A.out q.out (by decide))) (fun _ h_ => h_.1)) hb); have A0 := zK (Kd.R_elder' (Kd.R_mono (zlR (Kd.R_types M.out q.out (by decide))) (fun _ h_ => h_.1)) (Kd.R_base e0) hb); have B0 := zK (Kd.R_below (Kd.R_mono (zlR (Kd.R_types I.out q.out (by decide))) (fun _ h_ => h_.1)) hb); have D0 := zK (Kd.R_below (Kd.R_mono (zlR (Kd.R_types J.out q.out (by decide))) (fun _ h_ => h_.1)) hb); have E0 := zK (Kd.S_below (Kd.S_mono (zlS (Kd.S_types T.out q.out (by decide))) (fun _ h_ => h_.1)) hb); have R0 := zK (Kd.R_below (Kd.R_mono (zlR (Kd.R_types U.out q.out (by decide))) (fun _ h_ => h_.1)) hb); have V0 := zK (Kd.R_below (Kd.R_mono (zlR (Kd.R_types L.out q.out (by decide))) (fun _ h_ => h_.1)) hb); have X0 := zK (Kd.R_lower (Kd.R_new' e0 (Kd.R_lt (Kd.R_mono (zlR (Kd.R_types M.out q.out (by decide))) (fun _ h_ => h_.1)))) (zz zB)); have a1 := zK (zg (zV l) hb); have b1 := zK (zg (g := L1) (o := .cells #[.slice V2 S0.length I2, .slice X2 T0.length J2, .slice V3 e1.length O3, .slice X3 f1.length R3, .slice a3 U0.length L2] 34 (0, 0)) (zW q) hb); have d1 := z8 hb; revert a0 b0 c0 d0 y0 A0 B0 D0 E0 R0 V0 X0 a1 b1 d1; clear y z B E A M I J T U L l q HB; intro y z B E A M I J T U L f0 l q HB; obtain ⟨L0, M0, a0x⟩ := Kd.R_slice f0.out; subst a0x; obtain ⟨y3, A3, a0y⟩ := Kd.R_slice M.out; subst a0y) | ((with_reducible refine gc 14 rfl ?_); refine zF 25 Try.func14 #[.slice L0 O.length M0, .slice y3 G0.length A3] rfl zL ?_; refine (laws_eqLifeS.calls k _ _ O _ _ G0 _ _ (zC (Kd.R_reads' f0.out).2.2) ((Kd.R_reads' f0.out).2.1) (zC (Kd.R_reads' M.out).2.2) ((Kd.R_reads' M.out).2.1) J8.out).mono ?_; rintro e w42 ⟨rfl, hb⟩; refine ⟨_, rfl, ?_⟩; have a0 := zK (Kd.R_below (zkR y) hb); have b0 := zK (Kd.R_below (zkR z) hb); have c0 := zK (Kd.S_below (zkS B) hb); have d0 := zK (Kd.R_below (zkR E) hb); have y0 := zK (Kd.R_below (zkR A) hb); have A0 := zK (Kd.R_below (zkR M) hb); have B0 := zK (Kd.R_below (zkR I) hb); have D0 := zK (Kd.R_below (zkR J) hb); have E0 := zK (Kd.S_below (zkS T) hb); have R0 := zK (Kd.R_below (zkR U) hb); have V0 := zK (Kd.R_below (zkR L) hb); have X0 := zK (Kd.R_below (zkR f0) hb); have a1 := z7 l hb; have b1 := z7 q hb; have d1 := z8 hb; revert a0 b0 c0 d0 y0 A0 B0 D0 E0 R0 V0 X0 a1 b1 d1; clear y z B E A M I J T U L f0 l q HB; intro y z B E A M I J T U L f0 l q HB))
 · have a0 := zK (Kd.R_drew y.out)
   have b0 := zK (Kd.R_drew z.out)
   have c0 := zK (Kd.S_drew B.out)
   have d0 := zK (Kd.R_drew E.out)
   have y0 := zK (Kd.R_drew A.out)
   have A0 := zK (Kd.R_drew M.out)
   have B0 := zK (Kd.R_drew I.out)
   have D0 := zK (Kd.R_drew J.out)
   have E0 := zK (Kd.S_drew T.out)
   have R0 := zK (Kd.R_drew U.out)
   have V0 := zK (Kd.R_drew L.out)
   have X0 := zK (Kd.R_drew f0.out)
   have a1 := zK (zd l.out)
   have b1 := zK (zd q.out)
   have d1 := zK (ze HB.out)
   revert a0 b0 c0 d0 y0 A0 B0 D0 E0 R0 V0 X0 a1 b1 d1
   clear y z B E A M I J T U L f0 l q HB
   intro y z B E A M I J T U L f0 l q HB
   refine start_ (n := 5) (S := fun w' => w'.cell? ⟨L1, 0, none⟩ = some (.slice V2 S0.length I2) ∧ w'.cell? ⟨L1, 1, none⟩ = some (.slice X2 T0.length J2) ∧ w'.cell? ⟨L1, 2, none⟩ = some (.slice V3 e1.length O3) ∧ w'.cell? ⟨L1, 3, none⟩ = some (.slice X3 f1.length R3) ∧ w'.cell? ⟨L1, 4, none⟩ = some (.slice a3 U0.length L2) ∧ w'.cell? ⟨c2, 0, none⟩ = some (.slice q1 g0.length t1) ∧ w'.cell? ⟨c2, 1, none⟩ = some (.slice x1 i0.length y1) ∧ w'.cell? ⟨c2, 2, none⟩ = some (.slice A1 l0.length B1) ∧ w'.cell? ⟨c2, 3, none⟩ = some (.slice C1 m0.length D1) ∧ w'.cell? ⟨c2, 4, none⟩ = some (.slice E1 n0.length F1)) (ds := []) (bl 5 0) (by kernel_rfl) rfl (by kernel_rfl) ⟨zy q 0, zy q 1, zy q 2, zy q 3, zy q 4, zy l 0, zy l 1, zy l 2, zy l 3, zy l 4⟩ (fun hHeld => ?_)
   generalize w42.drew = w43 at y z B E A M I J T U L f0 l q HB hHeld ⊢
   refine take_ (i := 0) (N := some 27) (v := ?_) (a' := ?_) (bl 5 1) rfl rfl (by kernel_rfl) (fun _ _ _ h => h) (Or.inl ⟨by rfl, ?_⟩) hHeld ?_ ?_
   rotate_left
   · rintro w' ⟨s0, s1, s2, s3, s4, s5, s6, s7, s8, s9⟩
     go_simp
     with_reducible rfl
   rotate_left
   · simp only [Act.put, zq1, zq2, zq3, i64_w, i32_w]
     rfl
   refine take_ (i := 1) (N := some 28) (v := ?_) (a' := ?_) (bl 5 3) rfl rfl (by kernel_rfl) (fun _ _ _ h => h) (Or.inl ⟨by rfl, ?_⟩) hHeld ?_ ?_
   rotate_left
   · rintro w' ⟨s0, s1, s2, s3, s4, s5, s6, s7, s8, s9⟩
     go_simp
     with_reducible rfl
   rotate_left
   · simp only [Act.put, zq1, zq2, zq3, i64_w, i32_w]
     rfl
   refine one_ (i := 2) (N := some 29) (bl 5 7) rfl rfl (by kernel_rfl) (by decide) (fun K hK => ?_)
   refine goes_ Try.func12 (by kernel_rfl) rfl #[.agg #[.slice q1 g0.length t1, .slice x1 i0.length y1, .slice A1 l0.length B1, .slice C1 m0.length D1, .slice E1 n0.length F1]] (by rfl) rfl rfl zL ?_
   refine (laws_toNest.calls k _ _ g0 _ _ i0 _ _ l0 _ _ m0 _ _ n0 o3 p3 q3 t3 x3 _ (zS N1) O1.out (zS R1) S1.out (zS T1) U1.out (zS V1) X1.out (zS a2) b2.out L8.out).mono ?_
   rintro e w44 ⟨v492, v495, v498, v501, v504, rfl, e0, I0, o1, p1, J0, hb⟩
   refine ⟨_, rfl, ?_⟩
   have a0 := zK (Kd.R_mono (Kd.R_told (Kd.R_told (Kd.R_told (Kd.R_old (zkR y) hb) (Kd.R_base e0)) (Kd.R_base I0)) (Kd.R_base J0)) (fun _ h_ => h_.1))
   have b0 := zK (Kd.R_mono (Kd.R_told (Kd.R_told (Kd.R_told (Kd.R_old (zkR z) hb) (Kd.R_base e0)) (Kd.R_base I0)) (Kd.R_base J0)) (fun _ h_ => h_.1))
   have c0 := zK (Kd.S_mono (Kd.S_told (Kd.S_told (Kd.S_told (Kd.S_told (Kd.S_old (zkS B) hb) (Kd.R_base e0)) (Kd.R_base I0)) (Kd.S_base o1)) (Kd.R_base J0)) (fun _ h_ => h_.1))
   have d0 := zK (Kd.R_mono (Kd.R_told (Kd.R_told (Kd.R_told (Kd.R_told (Kd.R_old (zkR E) hb) (Kd.R_base e0)) (Kd.R_base I0)) (Kd.R_base p1)) (Kd.R_base J0)) (fun _ h_ => h_.1))
   have y0 := zK (Kd.R_mono (Kd.R_told (Kd.R_told (Kd.R_told (Kd.R_old (zkR A) hb) (Kd.R_base e0)) (Kd.R_base I0)) (Kd.R_base J0)) (fun _ h_ => h_.1))
   have A0 := zK (Kd.R_below (zkR M) hb)
   have B0 := zK (Kd.R_mono (Kd.R_told (Kd.R_told (Kd.R_told (Kd.R_old (zkR I) hb) (Kd.R_base e0)) (Kd.R_base I0)) (Kd.R_base J0)) (fun _ h_ => h_.1))
   have D0 := zK (Kd.R_mono (Kd.R_told (Kd.R_told (Kd.R_told (Kd.R_old (zkR J) hb) (Kd.R_base e0)) (Kd.R_base I0)) (Kd.R_base J0)) (fun _ h_ => h_.1))
   have E0 := zK (Kd.S_mono (Kd.S_told (Kd.S_told (Kd.S_told (Kd.S_told (Kd.S_old (zkS T) hb) (Kd.R_base e0)) (Kd.R_base I0)) (Kd.S_base o1)) (Kd.R_base J0)) (fun _ h_ => h_.1))
   have R0 := zK (Kd.R_mono (Kd.R_told (Kd.R_told (Kd.R_told (Kd.R_told (Kd.R_old (zkR U) hb) (Kd.R_base e0)) (Kd.R_base I0)) (Kd.R_base p1)) (Kd.R_base J0)) (fun _ h_ => h_.1))
   have V0 := zK (Kd.R_mono (Kd.R_told (Kd.R_told (Kd.R_told (Kd.R_old (zkR L) hb) (Kd.R_base e0)) (Kd.R_base I0)) (Kd.R_base J0)) (fun _ h_ => h_.1))
   have X0 := zK (Kd.R_below (zkR f0) hb)
   have a1 := zK (Kd.R_lower (Kd.R_new' (Kd.R_new' (Kd.R_new' (Kd.R_new' (Kd.R_new' (Kd.R_new' e0 (Kd.R_lt (zkR y))) (Kd.R_lt (zkR z))) (Kd.R_lt (zkR A))) (Kd.R_lt (zkR I))) (Kd.R_lt (zkR J))) (Kd.R_lt (zkR L))) (zz zB))
   have b1 := zK (Kd.R_lower (Kd.R_new' (Kd.R_new' (Kd.R_new' (Kd.R_new' (Kd.R_new' (Kd.R_new' I0 (Kd.R_lt (zkR y))) (Kd.R_lt (zkR z))) (Kd.R_lt (zkR A))) (Kd.R_lt (zkR I))) (Kd.R_lt (zkR J))) (Kd.R_lt (zkR L))) (zz zB))
   have d1 := zK (Kd.S_lower (Kd.S_new' (Kd.S_new' (Kd.S_new' (Kd.S_new' (Kd.S_new' (Kd.S_new' (Kd.S_new' (Kd.S_new' o1 (Kd.R_lt (zkR y))) (Kd.R_lt (zkR z))) (Kd.S_lt (zkS B))) (Kd.R_lt (zkR A))) (Kd.R_lt (zkR I))) (Kd.R_lt (zkR J))) (Kd.S_lt (zkS T))) (Kd.R_lt (zkR L))) (zz zB))
   have d2 := zK (Kd.R_lower (Kd.R_new' (Kd.R_new' (Kd.R_new' (Kd.R_new' (Kd.R_new' (Kd.R_new' (Kd.R_new' (Kd.R_new' p1 (Kd.R_lt (zkR y))) (Kd.R_lt (zkR z))) (Kd.R_lt (zkR E))) (Kd.R_lt (zkR A))) (Kd.R_lt (zkR I))) (Kd.R_lt (zkR J))) (Kd.R_lt (zkR U))) (Kd.R_lt (zkR L))) (zz zB))
   have e2 := zK (Kd.R_lower (Kd.R_new' (Kd.R_new' (Kd.R_new' (Kd.R_new' (Kd.R_new' (Kd.R_new' J0 (Kd.R_lt (zkR y))) (Kd.R_lt (zkR z))) (Kd.R_lt (zkR A))) (Kd.R_lt (zkR I))) (Kd.R_lt (zkR J))) (Kd.R_lt (zkR L))) (zz zB))
   have f2 := z7 l hb
   have T2 := z7 q hb
   have U2 := z8 hb
   revert a0 b0 c0 d0 y0 A0 B0 D0 E0 R0 V0 X0 a1 b1 d1 d2 e2 f2 T2 U2
   clear y z B E A M I J T U L f0 l q HB
   intro y z B E A M I J T U L f0 i1 j1 l1 m1 n1 l q HB
   (try clear hb)
   (try clear hb2)
   (try clear hk)
   (try clear hi)
   (try clear e0)
   (try clear I0)
   (try clear o1)
   (try clear p1)
   (try clear J0)
   obtain ⟨a0z, a1a, G6⟩ := Kd.R_slice i1.out
   (first | subst G6 | (injection G6 with f1_ f2_ f3_; have f4_ := f1_.symm; have f5_ := f3_.symm; clear f1_ f2_ f3_; subst f4_; subst f5_))
   obtain ⟨a1b, a1c, I6⟩ := Kd.R_slice j1.out
   (first | subst I6 | (injection I6 with f1_ f2_ f3_; have f4_ := f1_.symm; have f5_ := f3_.symm; clear f1_ f2_ f3_; subst f4_; subst f5_))
   obtain ⟨a1d, a1e, J6⟩ := Kd.S_slice l1.out
   (first | subst J6 | (injection J6 with f1_ f2_ f3_; have f4_ := f1_.symm; have f5_ := f3_.symm; clear f1_ f2_ f3_; subst f4_; subst f5_))
   obtain ⟨a1f, a1g, L6⟩ := Kd.R_slice m1.out
   (first | subst L6 | (injection L6 with f1_ f2_ f3_; have f4_ := f1_.symm; have f5_ := f3_.symm; clear f1_ f2_ f3_; subst f4_; subst f5_))
   obtain ⟨a1j, a1l, M6⟩ := Kd.R_slice n1.out
   (first | subst M6 | (injection M6 with f1_ f2_ f3_; have f4_ := f1_.symm; have f5_ := f3_.symm; clear f1_ f2_ f3_; subst f4_; subst f5_))
   refine hK.out _ _ ⟨zy q 0, zy q 1, zy q 2, zy q 3, zy q 4, zy l 0, zy l 1, zy l 2, zy l 3, zy l 4⟩ (fun hHeld => ?_)
   clear hK K
   refine zU 29 ?_
   refine one_ (i := 3) (N := some 30) (bl 5 15) rfl rfl (by kernel_rfl) (by decide) (fun K hK => ?_)
   refine goes_ Try.func15 (by kernel_rfl) rfl #[.agg #[.slice V2 S0.length I2, .slice X2 T0.length J2, .slice V3 e1.length O3, .slice X3 f1.length R3, .slice a3 U0.length L2], .agg #[.slice a0z o3.length a1a, .slice a1b p3.length a1c, .slice a1d q3.length a1e, .slice a1f t3.length a1g, .slice a1j x3.length a1l]] (by rfl) rfl rfl zL ?_
   refine (laws_eqNest.calls k _ _ S0 _ _ T0 _ _ e1 _ _ f1 _ _ U0 _ _ o3 _ _ p3 _ _ q3 _ _ t3 _ _ x3 true _ (zC (Kd.R_reads' I.out).2.2) ((Kd.R_reads' I.out).2.1) (zC (Kd.R_reads' J.out).2.2) ((Kd.R_reads' J.out).2.1) (zC (Kd.S_reads' T.out).2.2) ((Kd.S_reads' T.out).2.1) (zC (Kd.R_reads' U.out).2.2) ((Kd.R_reads' U.out).2.1) (zC (Kd.R_reads' L.out).2.2) ((Kd.R_reads' L.out).2.1) (zC (Kd.R_reads' i1.out).2.2) ((Kd.R_reads' i1.out).2.1) (zC (Kd.R_reads' j1.out).2.2) ((Kd.R_reads' j1.out).2.1) (zC (Kd.S_reads' l1.out).2.2) ((Kd.S_reads' l1.out).2.1) (zC (Kd.R_reads' m1.out).2.2) ((Kd.R_reads' m1.out).2.1) (zC (Kd.R_reads' n1.out).2.2) ((Kd.R_reads' n1.out).2.1) M8.out).mono ?_
   rintro e w50 ⟨rfl, hb⟩
   refine ⟨_, rfl, ?_⟩
   have a0 := zK (Kd.R_below (zkR y) hb)
   have b0 := zK (Kd.R_below (zkR z) hb)
   have c0 := zK (Kd.S_below (zkS B) hb)
   have d0 := zK (Kd.R_below (zkR E) hb)
   have y0 := zK (Kd.R_below (zkR A) hb)
   have A0 := zK (Kd.R_below (zkR M) hb)
   have B0 := zK (Kd.R_below (zkR I) hb)
   have D0 := zK (Kd.R_below (zkR J) hb)
   have E0 := zK (Kd.S_below (zkS T) hb)
   have R0 := zK (Kd.R_below (zkR U) hb)
   have V0 := zK (Kd.R_below (zkR L) hb)
   have X0 := zK (Kd.R_below (zkR f0) hb)
   have a1 := zK (Kd.R_below (zkR i1) hb)
   have b1 := zK (Kd.R_below (zkR j1) hb)
   have d1 := zK (Kd.S_below (zkS l1) hb)
   have d2 := zK (Kd.R_below (zkR m1) hb)
   have e2 := zK (Kd.R_below (zkR n1) hb)
   have f2 := z7 l hb
   have T2 := z7 q hb
   have U2 := z8 hb
   revert a0 b0 c0 d0 y0 A0 B0 D0 E0 R0 V0 X0 a1 b1 d1 d2 e2 f2 T2 U2
   clear y z B E A M I J T U L f0 i1 j1 l1 m1 n1 l q HB
   intro y z B E A M I J T U L f0 i1 j1 l1 m1 n1 l q HB
   (try clear hb)
   (try clear hb2)
   (try clear hk)
   (try clear hi)
   refine hK.out _ _ ⟨zy q 0, zy q 1, zy q 2, zy q 3, zy q 4, zy l 0, zy l 1, zy l 2, zy l 3, zy l 4⟩ (fun hHeld => ?_)
   clear hK K
   refine zU 30 ?_
   refine pure_ (i := 4) (N := some 31) (v := ?_) (a' := ?_) (bl 5 31) rfl rfl (by kernel_rfl) (fun _ _ _ h => h) (Or.inl ⟨by rfl, ?_⟩) ?_ ?_
   rotate_left
   · intro w'
     go_simp
     with_reducible rfl
   rotate_left
   · simp only [Act.put, zq1, zq2, zq3, i64_w, i32_w]
     rfl
   refine done_ (by kernel_rfl) ?_
   obtain ⟨e6, f6, g6, i6, j6, l6, m6, n6, o6, p6⟩ := zc5 q
   go_upto_region 14 with (first | ((with_reducible refine gc 16 rfl ?_); refine zF 34 Try.func16 #[.agg #[.slice V2 S0.length I2, .slice X2 T0.length J2, .slice V3 e1.length O3, .slice X3 f1.length R3, .slice a3 U0.length L2], .int .i64 1] rfl zL ?_; (with_reducible refine (Marks.markNest_E S0 T0 e1 f1 U0 1 F2 w.heap.size _ ?side1 ?side2 ?side3 ?side4 ?side5 ?side6).mono ?_); (case side1 => exact ⟨_, (zkR I)⟩); (case side2 => exact ⟨_, (zkR J)⟩); (case side3 => exact ⟨_, Kd.S_R (zkS T)⟩); (case side4 => exact ⟨_, (zkR U)⟩); (case side5 => exact ⟨_, (zkR L)⟩); (case side6 => exact A16.out); rintro e w52 ⟨rfl, hb⟩; refine ⟨_, rfl, ?_⟩; have a0 := zK (Marks.Turned.R hb (zkR M) (by decide)); have b0 := zK (Marks.Turned.R hb (zkR f0) (by decide)); have c0 := zK (Marks.Turned.block hb (zM l) (by decide)); have d0 := zK (Marks.Turned.below hb zB); revert a0 b0 c0 d0; clear y z B E A M I J T U L f0 i1 j1 l1 m1 n1 l q HB; intro M f0 l HB))
   (try simp only [Act.put, zq1, zq2, zq3])
   go_cut [42] (fun v42 wc => ∃ (kq : Nat) (E3 : Bool), v42 = .bool E3 ∧ Aside0 (laws_FnExactLives.j0 kq G0 O E3 g0 i0 l0 m0 n0 = some r) ∧ Aside0 (kq ≤ k) ∧ Aside0 (Kd.R k52 52 wc w.heap.size (fun k_ => some k_ ≠ ((.slice L0 O.length M0) : Value).ownBlock) (.slice y3 G0.length A3) G0) ∧ Aside0 (Kd.R k52 52 wc w.heap.size (fun k_ => some k_ ≠ ((.slice y3 G0.length A3) : Value).ownBlock) (.slice L0 O.length M0) O) ∧ Aside0 (wc.heap[c2]? = some (.cells #[(.slice q1 g0.length t1), (.slice x1 i0.length y1), (.slice A1 l0.length B1), (.slice C1 m0.length D1), (.slice E1 n0.length F1)] 26 (0, 0))) ∧ Aside0 (Below w.heap.size w wc))
   case first =>
    have H := o4.out
    clear o4
    by_cases a4 : F2 < 0
    · rw [if_pos a4] at H
      have m3 := z1 a4
      clear a4
      (first | rw [m3] | (simp only [i64_w, i32_w]; rw [m3]) | skip)
      have H' := zK H
      clear H
      go_wp2
      go_meet
      case rel => exact ⟨_, (true), zR, H', ⟨by first | omega | exact Nat.le_refl _⟩, ⟨Kd.R_mono (zlR M.out) (fun _ hk => hk.2)⟩, ⟨Kd.R_mono (zlR f0.out) (fun _ hk => hk.2)⟩, ⟨zM l⟩, ⟨zB⟩⟩
    rw [if_neg a4] at H
    have m3 := z2 a4
    clear a4
    (first | rw [m3] | (simp only [i64_w, i32_w]; rw [m3]) | skip)
    replace H := z6 H
    obtain ⟨G2, N6, H⟩ := H
    have A54 := zK N6
    clear N6
    have H' := zK H
    clear H
    go_wp2_with (first | (go_at_call 14; (with_reducible refine (laws_eqLifeS.calls k _ _ O _ _ G0 G2 _ ?side1 ?side2 ?side3 ?side4 A54.out).mono ?_); (case side1 => exact zC (Kd.R_reads' f0.out).2.2); (case side2 => exact (Kd.R_reads' f0.out).2.1); (case side3 => exact zC (Kd.R_reads' M.out).2.2); (case side4 => exact (Kd.R_reads' M.out).2.1); rintro e w55 ⟨rfl, hb⟩; have A0 := zK (Kd.R_below (zkR M) hb); have X0 := zK (Kd.R_below (zkR f0) hb); have f2 := z7 l hb; have U2 := z8 hb; revert A0 X0 f2 U2; clear M f0 l HB; intro M f0 l HB))
    go_meet
    case rel => exact ⟨_, (!G2), zR, H', ⟨by first | omega | exact Nat.le_refl _⟩, ⟨Kd.R_mono (zlR M.out) (fun _ hk => hk.2)⟩, ⟨Kd.R_mono (zlR f0.out) (fun _ hk => hk.2)⟩, ⟨zM l⟩, ⟨zB⟩⟩
   case rest =>
    clear o4
    try clear c1
    try clear p2
    try clear c3
    try clear q6
    try clear c4
    try clear c5
    try clear c10
    try clear c11
    try clear f4
    try clear c13
    try clear c14
    try clear m4
    try clear c16
    try clear c33
    try clear a4
    try clear m3
    try clear a5 b5 d5 e5 f5 g5 i5 j5 l5 m5
    try clear n5 o5 p5 q5 t5 x5 y5 A5 B5 C5
    try clear D5 E5 F5 G5 I5 J5 L5 M5 N5 O5
    try clear R5 S5 T5 U5 V5 X5 a6 b6 c6 d6
    try clear e6 f6 g6 i6 j6 l6 m6 n6 o6 p6
    try clear a6m a6n a6o a6p a6q a6s a6t a6u a6x a6y
    obtain ⟨kq, E3, rfl, HA, a7q, X, u, l, HB⟩ := hcut
    cases kq with
    | zero => exact absurd HA.out (by simp [laws_FnExactLives.j0])
    | succ N0 =>
     have H := HA.out
     clear HA
     simp only [laws_FnExactLives.j0] at H
     by_cases S4 : E3 = true
     · subst S4
       rw [if_pos rfl] at H
       obtain rfl := z5 H
       go_wp2
       go_ret
       exact ⟨zE, zB⟩
     replace S4 := Bool.eq_false_iff.mpr S4
     subst S4
     rw [if_neg (show ¬ (false = true) by decide)] at H
     replace H := z6 H
     obtain ⟨⟨x2, C0⟩, O6, H⟩ := H
     replace H : ((laws_heldLifeS.f N0 C0 1).bind fun y2 => (if y2 < 0 then (some false) else (if y2 = x2 then ((laws_toNest.f N0 g0 i0 l0 m0 n0).bind fun F3 => ((impl_Lives.f N0 F3.1 F3.2.1 F3.2.2.1 F3.2.2.2.1 F3.2.2.2.2).bind fun M1 => ((laws_eqLifeS.f N0 M1 G0).bind fun b4 => (if b4 = true then ((laws_heldLifeS.f N0 C0 1).bind fun B2 => (if B2 < 0 then (some false) else (if B2 = x2 then (some true) else (some false)))) else (some false))))) else (some false)))) = some r := H
     have g4 := zK O6
     clear O6
     replace H := z6 H
     obtain ⟨y2, R6, H⟩ := H
     have i4 := zK R6
     clear R6
     by_cases j4 : y2 < 0
     · rw [if_pos j4] at H
       have O7 := z1 j4
       clear j4
       obtain rfl := z5 H
       go_wp2_with (first | ((with_reducible refine gc 17 rfl ?_); refine zF 45 Try.func17 #[.slice L0 O.length M0, .int .i64 1] rfl zL ?_; (with_reducible refine (laws_markLifeS.calls N0 (fun k_ => some k_ = (.slice L0 O.length M0 : Value).ownBlock) (.slice L0 O.length M0) O 1 x2 C0 w _ ?side1 ?side2 g4.out).mono ?_); (case side1 => repeat (first | (with_reducible first | exact HB.out | apply zb | apply zw | apply ze | refine zs ?_ R2.out) | exact HB.out)); (case side2 => exact Kd.R_tight rfl u.out); rintro e w60 ⟨rfl, n2, hb, hkp⟩; refine ⟨_, rfl, ?_⟩; have a0 := zK (Kd.R_mono (ok' := fun k_ => some k_ ≠ (.slice L0 O.length M0 : Value).ownBlock) (Kd.R_keptB (X.out) hkp (fun k_ hk_ hs_ => (hk_) hs_)) (fun k_ hk_ => hk_.1)); have b0 := zK (Kd.R_reok rfl n2 (fun k_ e_ => u.out.1 k_ e_)); have c0 := zK (blk_kept (zM l) hkp (fun hs_ => (fun e_ => (Kd.R_ne u.out l.out (by decide)) e_) hs_)); have d0 := zK (hb); revert a0 b0 c0 d0; clear X u l HB; intro X u l HB; (try clear hkp); (try clear n2)) | ((with_reducible refine gc 18 rfl ?_); refine zF 48 Try.func18 #[.slice L0 C0.length M0, .int .i64 1] rfl (by (try simp only [List.map_toArray, List.map_cons, List.map_nil]); first | done | (rw [show C0.length = O.length from (Kd.R_reads' u.out).1.symm] <;> rfl) | rfl | (simp only [List.length_drop, List.length_take]; rfl)) ?_; (with_reducible refine (laws_heldLifeS.calls N0 _ _ C0 1 y2 _ ?side1 ?side2 i4.out).mono ?_); (case side1 => exact zC (Kd.R_reads' u.out).2.2); (case side2 => rw [show C0.length = O.length from (Kd.R_reads' u.out).1.symm]; exact (Kd.R_reads' u.out).2.1); rintro e w' ⟨rfl, ⟨nd, rfl⟩⟩; refine ⟨_, rfl, ?_⟩))
       go_ret
       exact ⟨zE, zB⟩
     rw [if_neg j4] at H
     have O7 := z2 j4
     clear j4
     by_cases d4 : y2 = x2
     rotate_left
     · rw [if_neg d4] at H
       have R7 := beq_eq_false_iff_ne.mpr d4
       have S7 := bne_iff_ne.mpr d4
       obtain rfl := z5 H
       go_wp2_with (first | ((with_reducible refine gc 17 rfl ?_); refine zF 45 Try.func17 #[.slice L0 O.length M0, .int .i64 1] rfl zL ?_; (with_reducible refine (laws_markLifeS.calls N0 (fun k_ => some k_ = (.slice L0 O.length M0 : Value).ownBlock) (.slice L0 O.length M0) O 1 x2 C0 w _ ?side1 ?side2 g4.out).mono ?_); (case side1 => repeat (first | (with_reducible first | exact HB.out | apply zb | apply zw | apply ze | refine zs ?_ R2.out) | exact HB.out)); (case side2 => exact Kd.R_tight rfl u.out); rintro e a7s ⟨rfl, n2, hb, hkp⟩; refine ⟨_, rfl, ?_⟩; have a0 := zK (Kd.R_mono (ok' := fun k_ => some k_ ≠ (.slice L0 O.length M0 : Value).ownBlock) (Kd.R_keptB (X.out) hkp (fun k_ hk_ hs_ => (hk_) hs_)) (fun k_ hk_ => hk_.1)); have b0 := zK (Kd.R_reok rfl n2 (fun k_ e_ => u.out.1 k_ e_)); have c0 := zK (blk_kept (zM l) hkp (fun hs_ => (fun e_ => (Kd.R_ne u.out l.out (by decide)) e_) hs_)); have d0 := zK (hb); revert a0 b0 c0 d0; clear X u l HB; intro X u l HB; (try clear hkp); (try clear n2)) | ((with_reducible refine gc 18 rfl ?_); refine zF 48 Try.func18 #[.slice L0 C0.length M0, .int .i64 1] rfl (by (try simp only [List.map_toArray, List.map_cons, List.map_nil]); first | done | (rw [show C0.length = O.length from (Kd.R_reads' u.out).1.symm] <;> rfl) | rfl | (simp only [List.length_drop, List.length_take]; rfl)) ?_; (with_reducible refine (laws_heldLifeS.calls N0 _ _ C0 1 y2 _ ?side1 ?side2 i4.out).mono ?_); (case side1 => exact zC (Kd.R_reads' u.out).2.2); (case side2 => rw [show C0.length = O.length from (Kd.R_reads' u.out).1.symm]; exact (Kd.R_reads' u.out).2.1); rintro e w' ⟨rfl, ⟨nd, rfl⟩⟩; refine ⟨_, rfl, ?_⟩))
       go_ret
       exact ⟨zE, zB⟩
     rw [if_pos d4] at H
     have R7 := beq_iff_eq.mpr d4
     have S7 := bne_eq_false_iff_eq.mpr d4
     clear d4
     replace H := z6 H
     obtain ⟨⟨g2, i2, j2, l2, m2⟩, S6, H⟩ := H
     replace H : ((impl_Lives.f N0 g2 i2 j2 l2 m2).bind fun M1 => ((laws_eqLifeS.f N0 M1 G0).bind fun b4 => (if b4 = true then ((laws_heldLifeS.f N0 C0 1).bind fun B2 => (if B2 < 0 then (some false) else (if B2 = x2 then (some true) else (some false)))) else (some false)))) = some r := H
     have T4 := zK S6
     clear S6
     replace H := z6 H
     obtain ⟨M1, T6, H⟩ := H
     have U4 := zK T6
     clear T6
     replace H := z6 H
     obtain ⟨b4, U6, H⟩ := H
     have V4 := zK U6
     clear U6
     by_cases X4 : b4 = true
     rotate_left
     · replace X4 := Bool.eq_false_iff.mpr X4
       subst X4
       rw [if_neg (show ¬ (false = true) by decide)] at H
       obtain rfl := z5 H
       go_wp2_with (first | ((with_reducible refine gc 17 rfl ?_); refine zF 45 Try.func17 #[.slice L0 O.length M0, .int .i64 1] rfl zL ?_; (with_reducible refine (laws_markLifeS.calls N0 (fun k_ => some k_ = (.slice L0 O.length M0 : Value).ownBlock) (.slice L0 O.length M0) O 1 x2 C0 w _ ?side1 ?side2 g4.out).mono ?_); (case side1 => repeat (first | (with_reducible first | exact HB.out | apply zb | apply zw | apply ze | refine zs ?_ R2.out) | exact HB.out)); (case side2 => exact Kd.R_tight rfl u.out); rintro e a7t ⟨rfl, n2, hb, hkp⟩; refine ⟨_, rfl, ?_⟩; have a0 := zK (Kd.R_mono (ok' := fun k_ => some k_ ≠ (.slice L0 O.length M0 : Value).ownBlock) (Kd.R_keptB (X.out) hkp (fun k_ hk_ hs_ => (hk_) hs_)) (fun k_ hk_ => hk_.1)); have b0 := zK (Kd.R_reok rfl n2 (fun k_ e_ => u.out.1 k_ e_)); have c0 := zK (blk_kept (zM l) hkp (fun hs_ => (fun e_ => (Kd.R_ne u.out l.out (by decide)) e_) hs_)); have d0 := zK (hb); revert a0 b0 c0 d0; clear X u l HB; intro X u l HB; (try clear hkp); (try clear n2)) | ((with_reducible refine gc 18 rfl ?_); refine zF 48 Try.func18 #[.slice L0 C0.length M0, .int .i64 1] rfl (by (try simp only [List.map_toArray, List.map_cons, List.map_nil]); first | done | (rw [show C0.length = O.length from (Kd.R_reads' u.out).1.symm] <;> rfl) | rfl | (simp only [List.length_drop, List.length_take]; rfl)) ?_; (with_reducible refine (laws_heldLifeS.calls N0 _ _ C0 1 y2 _ ?side1 ?side2 i4.out).mono ?_); (case side1 => exact zC (Kd.R_reads' u.out).2.2); (case side2 => rw [show C0.length = O.length from (Kd.R_reads' u.out).1.symm]; exact (Kd.R_reads' u.out).2.1); rintro e w' ⟨rfl, ⟨nd, rfl⟩⟩; refine ⟨_, rfl, ?_⟩; obtain ⟨a1m, a1n, a1o, a1p, a1q, a1s, a1t, a1u, a1x, a1y⟩ := zc5 l) | ((with_reducible refine gc 12 rfl ?_); refine zF 55 Try.func12 #[.agg #[.slice q1 g0.length t1, .slice x1 i0.length y1, .slice A1 l0.length B1, .slice C1 m0.length D1, .slice E1 n0.length F1]] rfl zL ?_; refine (laws_toNest.calls N0 _ _ g0 _ _ i0 _ _ l0 _ _ m0 _ _ n0 g2 i2 j2 l2 m2 _ (zS N1) O1.out (zS R1) S1.out (zS T1) U1.out (zS V1) X1.out (zS a2) b2.out T4.out).mono ?_; rintro e a7u ⟨v513, v516, v519, v522, v525, rfl, e0, I0, o1, p1, J0, hb⟩; refine ⟨_, rfl, ?_⟩; have a0 := zK (Kd.R_below (zkR X) hb); have b0 := zK (Kd.R_below (zkR u) hb); have c0 := zK (Kd.R_lower e0 (zz zB)); have d0 := zK (Kd.R_lower I0 (zz zB)); have y0 := zK (Kd.S_lower o1 (zz zB)); have A0 := zK (Kd.R_lower p1 (zz zB)); have B0 := zK (Kd.R_lower J0 (zz zB)); have D0 := z7 l hb; have E0 := z8 hb; revert a0 b0 c0 d0 y0 A0 B0 D0 E0; clear X u l HB; intro X u o0 p0 q0 t0 x0 l HB; obtain ⟨T7, U7, V7⟩ := Kd.R_slice o0.out; subst V7; obtain ⟨X7, a8, b8⟩ := Kd.R_slice p0.out; subst b8; obtain ⟨c8, d8, e8⟩ := Kd.S_slice q0.out; subst e8; obtain ⟨f8, g8, i8⟩ := Kd.R_slice t0.out; subst i8; obtain ⟨j8, l8, m8⟩ := Kd.R_slice x0.out; subst m8) | ((with_reducible refine gc 13 rfl ?_); refine zF 56 Try.func13 #[.agg #[.slice T7 g2.length U7, .slice X7 i2.length a8, .slice c8 j2.length d8, .slice f8 l2.length g8, .slice j8 m2.length l8]] rfl zL ?_; refine (impl_Lives.calls N0 _ _ g2 _ _ i2 _ _ j2 _ _ l2 _ _ m2 M1 _ (zC (Kd.R_reads' o0.out).2.2) ((Kd.R_reads' o0.out).2.1) (zC (Kd.R_reads' p0.out).2.2) ((Kd.R_reads' p0.out).2.1) (zC (Kd.S_reads' q0.out).2.2) ((Kd.S_reads' q0.out).2.1) (zC (Kd.R_reads' t0.out).2.2) ((Kd.R_reads' t0.out).2.1) (zC (Kd.R_reads' x0.out).2.2) ((Kd.R_reads' x0.out).2.1) U4.out).mono ?_; rintro e a7x ⟨v528, rfl, e0, hb⟩; refine ⟨_, rfl, ?_⟩; have a0 := zK (Kd.R_elder' (zkR X) (Kd.R_base e0) hb); have b0 := zK (Kd.R_elder' (zkR u) (Kd.R_base e0) hb); have c0 := zK (Kd.R_below (zkR o0) hb); have d0 := zK (Kd.R_below (zkR p0) hb); have y0 := zK (Kd.S_below (zkS q0) hb); have A0 := zK (Kd.R_below (zkR t0) hb); have B0 := zK (Kd.R_below (zkR x0) hb); have D0 := zK (Kd.R_lower (Kd.R_new' (Kd.R_new' e0 (Kd.R_lt (zkR X))) (Kd.R_lt (zkR u))) (zz zB)); have E0 := z7 l hb; have R0 := z8 hb; revert a0 b0 c0 d0 y0 A0 B0 D0 E0 R0; clear X u o0 p0 q0 t0 x0 l HB; intro X u o0 p0 q0 t0 x0 O0 l HB; obtain ⟨n8, o8, p8⟩ := Kd.R_slice O0.out; subst p8) | ((with_reducible refine gc 14 rfl ?_); refine zF 59 Try.func14 #[.slice n8 M1.length o8, .slice y3 G0.length A3] rfl zL ?_; refine (laws_eqLifeS.calls N0 _ _ M1 _ _ G0 false _ (zC (Kd.R_reads' O0.out).2.2) ((Kd.R_reads' O0.out).2.1) (zC (Kd.R_reads' X.out).2.2) ((Kd.R_reads' X.out).2.1) V4.out).mono ?_; rintro e a7y ⟨rfl, hb⟩; refine ⟨_, rfl, ?_⟩; have a0 := zK (Kd.R_below (zkR X) hb); have b0 := zK (Kd.R_below (zkR u) hb); have c0 := zK (Kd.R_below (zkR o0) hb); have d0 := zK (Kd.R_below (zkR p0) hb); have y0 := zK (Kd.S_below (zkS q0) hb); have A0 := zK (Kd.R_below (zkR t0) hb); have B0 := zK (Kd.R_below (zkR x0) hb); have D0 := zK (Kd.R_below (zkR O0) hb); have E0 := z7 l hb; have R0 := z8 hb; revert a0 b0 c0 d0 y0 A0 B0 D0 E0 R0; clear X u o0 p0 q0 t0 x0 O0 l HB; intro X u o0 p0 q0 t0 x0 O0 l HB))
       go_ret
       exact ⟨zE, zB⟩
     subst X4
     rw [if_pos rfl] at H
     replace H := z6 H
     obtain ⟨B2, V6, H⟩ := H
     have X6 := zK V6
     clear V6
     by_cases l4 : B2 < 0
     · rw [if_pos l4] at H
       have q8 := z1 l4
       clear l4
       obtain rfl := z5 H
       go_wp2_with (first | ((with_reducible refine gc 17 rfl ?_); refine zF 45 Try.func17 #[.slice L0 O.length M0, .int .i64 1] rfl zL ?_; (with_reducible refine (laws_markLifeS.calls N0 (fun k_ => some k_ = (.slice L0 O.length M0 : Value).ownBlock) (.slice L0 O.length M0) O 1 x2 C0 w _ ?side1 ?side2 g4.out).mono ?_); (case side1 => repeat (first | (with_reducible first | exact HB.out | apply zb | apply zw | apply ze | refine zs ?_ R2.out) | exact HB.out)); (case side2 => exact Kd.R_tight rfl u.out); rintro e w68 ⟨rfl, n2, hb, hkp⟩; refine ⟨_, rfl, ?_⟩; have a0 := zK (Kd.R_mono (ok' := fun k_ => some k_ ≠ (.slice L0 O.length M0 : Value).ownBlock) (Kd.R_keptB (X.out) hkp (fun k_ hk_ hs_ => (hk_) hs_)) (fun k_ hk_ => hk_.1)); have b0 := zK (Kd.R_reok rfl n2 (fun k_ e_ => u.out.1 k_ e_)); have c0 := zK (blk_kept (zM l) hkp (fun hs_ => (fun e_ => (Kd.R_ne u.out l.out (by decide)) e_) hs_)); have d0 := zK (hb); revert a0 b0 c0 d0; clear X u l HB; intro X u l HB; (try clear hkp); (try clear n2)) | ((with_reducible refine gc 18 rfl ?_); refine zF 48 Try.func18 #[.slice L0 C0.length M0, .int .i64 1] rfl (by (try simp only [List.map_toArray, List.map_cons, List.map_nil]); first | done | (rw [show C0.length = O.length from (Kd.R_reads' u.out).1.symm] <;> rfl) | rfl | (simp only [List.length_drop, List.length_take]; rfl)) ?_; (with_reducible refine (laws_heldLifeS.calls N0 _ _ C0 1 y2 _ ?side1 ?side2 i4.out).mono ?_); (case side1 => exact zC (Kd.R_reads' u.out).2.2); (case side2 => rw [show C0.length = O.length from (Kd.R_reads' u.out).1.symm]; exact (Kd.R_reads' u.out).2.1); rintro e w' ⟨rfl, ⟨nd, rfl⟩⟩; refine ⟨_, rfl, ?_⟩; obtain ⟨a4n, a4o, a4p, a4q, a4s, a4t, a4u, a4x, a4y, a4z⟩ := zc5 l) | ((with_reducible refine gc 12 rfl ?_); refine zF 55 Try.func12 #[.agg #[.slice q1 g0.length t1, .slice x1 i0.length y1, .slice A1 l0.length B1, .slice C1 m0.length D1, .slice E1 n0.length F1]] rfl zL ?_; refine (laws_toNest.calls N0 _ _ g0 _ _ i0 _ _ l0 _ _ m0 _ _ n0 g2 i2 j2 l2 m2 _ (zS N1) O1.out (zS R1) S1.out (zS T1) U1.out (zS V1) X1.out (zS a2) b2.out T4.out).mono ?_; rintro e w70 ⟨v513, v516, v519, v522, v525, rfl, e0, I0, o1, p1, J0, hb⟩; refine ⟨_, rfl, ?_⟩; have a0 := zK (Kd.R_below (zkR X) hb); have b0 := zK (Kd.R_below (zkR u) hb); have c0 := zK (Kd.R_lower e0 (zz zB)); have d0 := zK (Kd.R_lower I0 (zz zB)); have y0 := zK (Kd.S_lower o1 (zz zB)); have A0 := zK (Kd.R_lower p1 (zz zB)); have B0 := zK (Kd.R_lower J0 (zz zB)); have D0 := z7 l hb; have E0 := z8 hb; revert a0 b0 c0 d0 y0 A0 B0 D0 E0; clear X u l HB; intro X u o0 p0 q0 t0 x0 l HB; obtain ⟨a1z, a2a, a2b⟩ := Kd.R_slice o0.out; subst a2b; obtain ⟨a2c, a2d, a2e⟩ := Kd.R_slice p0.out; subst a2e; obtain ⟨a2f, a2g, a2j⟩ := Kd.S_slice q0.out; subst a2j; obtain ⟨a2l, a2m, a2n⟩ := Kd.R_slice t0.out; subst a2n; obtain ⟨a2o, a2p, a2q⟩ := Kd.R_slice x0.out; subst a2q) | ((with_reducible refine gc 13 rfl ?_); refine zF 56 Try.func13 #[.agg #[.slice a1z g2.length a2a, .slice a2c i2.length a2d, .slice a2f j2.length a2g, .slice a2l l2.length a2m, .slice a2o m2.length a2p]] rfl zL ?_; refine (impl_Lives.calls N0 _ _ g2 _ _ i2 _ _ j2 _ _ l2 _ _ m2 M1 _ (zC (Kd.R_reads' o0.out).2.2) ((Kd.R_reads' o0.out).2.1) (zC (Kd.R_reads' p0.out).2.2) ((Kd.R_reads' p0.out).2.1) (zC (Kd.S_reads' q0.out).2.2) ((Kd.S_reads' q0.out).2.1) (zC (Kd.R_reads' t0.out).2.2) ((Kd.R_reads' t0.out).2.1) (zC (Kd.R_reads' x0.out).2.2) ((Kd.R_reads' x0.out).2.1) U4.out).mono ?_; rintro e w76 ⟨v528, rfl, e0, hb⟩; refine ⟨_, rfl, ?_⟩; have a0 := zK (Kd.R_elder' (zkR X) (Kd.R_base e0) hb); have b0 := zK (Kd.R_elder' (zkR u) (Kd.R_base e0) hb); have c0 := zK (Kd.R_below (zkR o0) hb); have d0 := zK (Kd.R_below (zkR p0) hb); have y0 := zK (Kd.S_below (zkS q0) hb); have A0 := zK (Kd.R_below (zkR t0) hb); have B0 := zK (Kd.R_below (zkR x0) hb); have D0 := zK (Kd.R_lower (Kd.R_new' (Kd.R_new' e0 (Kd.R_lt (zkR X))) (Kd.R_lt (zkR u))) (zz zB)); have E0 := z7 l hb; have R0 := z8 hb; revert a0 b0 c0 d0 y0 A0 B0 D0 E0 R0; clear X u o0 p0 q0 t0 x0 l HB; intro X u o0 p0 q0 t0 x0 O0 l HB; obtain ⟨a2s, a2t, a2u⟩ := Kd.R_slice O0.out; subst a2u) | ((with_reducible refine gc 14 rfl ?_); refine zF 59 Try.func14 #[.slice a2s M1.length a2t, .slice y3 G0.length A3] rfl zL ?_; refine (laws_eqLifeS.calls N0 _ _ M1 _ _ G0 true _ (zC (Kd.R_reads' O0.out).2.2) ((Kd.R_reads' O0.out).2.1) (zC (Kd.R_reads' X.out).2.2) ((Kd.R_reads' X.out).2.1) V4.out).mono ?_; rintro e w78 ⟨rfl, hb⟩; refine ⟨_, rfl, ?_⟩; have a0 := zK (Kd.R_below (zkR X) hb); have b0 := zK (Kd.R_below (zkR u) hb); have c0 := zK (Kd.R_below (zkR o0) hb); have d0 := zK (Kd.R_below (zkR p0) hb); have y0 := zK (Kd.S_below (zkS q0) hb); have A0 := zK (Kd.R_below (zkR t0) hb); have B0 := zK (Kd.R_below (zkR x0) hb); have D0 := zK (Kd.R_below (zkR O0) hb); have E0 := z7 l hb; have R0 := z8 hb; revert a0 b0 c0 d0 y0 A0 B0 D0 E0 R0; clear X u o0 p0 q0 t0 x0 O0 l HB; intro X u o0 p0 q0 t0 x0 O0 l HB) | ((with_reducible refine gc 18 rfl ?_); refine zF 63 Try.func18 #[.slice L0 C0.length M0, .int .i64 1] rfl (by (try simp only [List.map_toArray, List.map_cons, List.map_nil]); first | done | (rw [show C0.length = O.length from (Kd.R_reads' u.out).1.symm] <;> rfl) | rfl | (simp only [List.length_drop, List.length_take]; rfl)) ?_; (with_reducible refine (laws_heldLifeS.calls N0 _ _ C0 1 B2 _ ?side1 ?side2 X6.out).mono ?_); (case side1 => exact zC (Kd.R_reads' u.out).2.2); (case side2 => rw [show C0.length = O.length from (Kd.R_reads' u.out).1.symm]; exact (Kd.R_reads' u.out).2.1); rintro e w' ⟨rfl, ⟨nd, rfl⟩⟩; refine ⟨_, rfl, ?_⟩))
       go_ret
       exact ⟨zE, zB⟩
     rw [if_neg l4] at H
     have q8 := z2 l4
     clear l4
     by_cases e4 : B2 = x2
     rotate_left
     · rw [if_neg e4] at H
       have t8 := beq_eq_false_iff_ne.mpr e4
       have x8 := bne_iff_ne.mpr e4
       obtain rfl := z5 H
       go_wp2_with (first | ((with_reducible refine gc 17 rfl ?_); refine zF 45 Try.func17 #[.slice L0 O.length M0, .int .i64 1] rfl zL ?_; (with_reducible refine (laws_markLifeS.calls N0 (fun k_ => some k_ = (.slice L0 O.length M0 : Value).ownBlock) (.slice L0 O.length M0) O 1 x2 C0 w _ ?side1 ?side2 g4.out).mono ?_); (case side1 => repeat (first | (with_reducible first | exact HB.out | apply zb | apply zw | apply ze | refine zs ?_ R2.out) | exact HB.out)); (case side2 => exact Kd.R_tight rfl u.out); rintro e w91 ⟨rfl, n2, hb, hkp⟩; refine ⟨_, rfl, ?_⟩; have a0 := zK (Kd.R_mono (ok' := fun k_ => some k_ ≠ (.slice L0 O.length M0 : Value).ownBlock) (Kd.R_keptB (X.out) hkp (fun k_ hk_ hs_ => (hk_) hs_)) (fun k_ hk_ => hk_.1)); have b0 := zK (Kd.R_reok rfl n2 (fun k_ e_ => u.out.1 k_ e_)); have c0 := zK (blk_kept (zM l) hkp (fun hs_ => (fun e_ => (Kd.R_ne u.out l.out (by decide)) e_) hs_)); have d0 := zK (hb); revert a0 b0 c0 d0; clear X u l HB; intro X u l HB; (try clear hkp); (try clear n2)) | ((with_reducible refine gc 18 rfl ?_); refine zF 48 Try.func18 #[.slice L0 C0.length M0, .int .i64 1] rfl (by (try simp only [List.map_toArray, List.map_cons, List.map_nil]); first | done | (rw [show C0.length = O.length from (Kd.R_reads' u.out).1.symm] <;> rfl) | rfl | (simp only [List.length_drop, List.length_take]; rfl)) ?_; (with_reducible refine (laws_heldLifeS.calls N0 _ _ C0 1 y2 _ ?side1 ?side2 i4.out).mono ?_); (case side1 => exact zC (Kd.R_reads' u.out).2.2); (case side2 => rw [show C0.length = O.length from (Kd.R_reads' u.out).1.symm]; exact (Kd.R_reads' u.out).2.1); rintro e w' ⟨rfl, ⟨nd, rfl⟩⟩; refine ⟨_, rfl, ?_⟩; obtain ⟨a5a, a5b, a5c, a5d, a5e, a5f, a5g, a5j, a5l, a5m⟩ := zc5 l) | ((with_reducible refine gc 12 rfl ?_); refine zF 55 Try.func12 #[.agg #[.slice q1 g0.length t1, .slice x1 i0.length y1, .slice A1 l0.length B1, .slice C1 m0.length D1, .slice E1 n0.length F1]] rfl zL ?_; refine (laws_toNest.calls N0 _ _ g0 _ _ i0 _ _ l0 _ _ m0 _ _ n0 g2 i2 j2 l2 m2 _ (zS N1) O1.out (zS R1) S1.out (zS T1) U1.out (zS V1) X1.out (zS a2) b2.out T4.out).mono ?_; rintro e w93 ⟨v513, v516, v519, v522, v525, rfl, e0, I0, o1, p1, J0, hb⟩; refine ⟨_, rfl, ?_⟩; have a0 := zK (Kd.R_below (zkR X) hb); have b0 := zK (Kd.R_below (zkR u) hb); have c0 := zK (Kd.R_lower e0 (zz zB)); have d0 := zK (Kd.R_lower I0 (zz zB)); have y0 := zK (Kd.S_lower o1 (zz zB)); have A0 := zK (Kd.R_lower p1 (zz zB)); have B0 := zK (Kd.R_lower J0 (zz zB)); have D0 := z7 l hb; have E0 := z8 hb; revert a0 b0 c0 d0 y0 A0 B0 D0 E0; clear X u l HB; intro X u o0 p0 q0 t0 x0 l HB; obtain ⟨a2x, a2y, a2z⟩ := Kd.R_slice o0.out; subst a2z; obtain ⟨a3a, a3b, a3c⟩ := Kd.R_slice p0.out; subst a3c; obtain ⟨a3d, a3e, a3f⟩ := Kd.S_slice q0.out; subst a3f; obtain ⟨a3g, a3j, a3l⟩ := Kd.R_slice t0.out; subst a3l; obtain ⟨a3m, a3n, a3o⟩ := Kd.R_slice x0.out; subst a3o) | ((with_reducible refine gc 13 rfl ?_); refine zF 56 Try.func13 #[.agg #[.slice a2x g2.length a2y, .slice a3a i2.length a3b, .slice a3d j2.length a3e, .slice a3g l2.length a3j, .slice a3m m2.length a3n]] rfl zL ?_; refine (impl_Lives.calls N0 _ _ g2 _ _ i2 _ _ j2 _ _ l2 _ _ m2 M1 _ (zC (Kd.R_reads' o0.out).2.2) ((Kd.R_reads' o0.out).2.1) (zC (Kd.R_reads' p0.out).2.2) ((Kd.R_reads' p0.out).2.1) (zC (Kd.S_reads' q0.out).2.2) ((Kd.S_reads' q0.out).2.1) (zC (Kd.R_reads' t0.out).2.2) ((Kd.R_reads' t0.out).2.1) (zC (Kd.R_reads' x0.out).2.2) ((Kd.R_reads' x0.out).2.1) U4.out).mono ?_; rintro e w99 ⟨v528, rfl, e0, hb⟩; refine ⟨_, rfl, ?_⟩; have a0 := zK (Kd.R_elder' (zkR X) (Kd.R_base e0) hb); have b0 := zK (Kd.R_elder' (zkR u) (Kd.R_base e0) hb); have c0 := zK (Kd.R_below (zkR o0) hb); have d0 := zK (Kd.R_below (zkR p0) hb); have y0 := zK (Kd.S_below (zkS q0) hb); have A0 := zK (Kd.R_below (zkR t0) hb); have B0 := zK (Kd.R_below (zkR x0) hb); have D0 := zK (Kd.R_lower (Kd.R_new' (Kd.R_new' e0 (Kd.R_lt (zkR X))) (Kd.R_lt (zkR u))) (zz zB)); have E0 := z7 l hb; have R0 := z8 hb; revert a0 b0 c0 d0 y0 A0 B0 D0 E0 R0; clear X u o0 p0 q0 t0 x0 l HB; intro X u o0 p0 q0 t0 x0 O0 l HB; obtain ⟨y8, B8, C8⟩ := Kd.R_slice O0.out; subst C8) | ((with_reducible refine gc 14 rfl ?_); refine zF 59 Try.func14 #[.slice y8 M1.length B8, .slice y3 G0.length A3] rfl zL ?_; refine (laws_eqLifeS.calls N0 _ _ M1 _ _ G0 true _ (zC (Kd.R_reads' O0.out).2.2) ((Kd.R_reads' O0.out).2.1) (zC (Kd.R_reads' X.out).2.2) ((Kd.R_reads' X.out).2.1) V4.out).mono ?_; rintro e a7z ⟨rfl, hb⟩; refine ⟨_, rfl, ?_⟩; have a0 := zK (Kd.R_below (zkR X) hb); have b0 := zK (Kd.R_below (zkR u) hb); have c0 := zK (Kd.R_below (zkR o0) hb); have d0 := zK (Kd.R_below (zkR p0) hb); have y0 := zK (Kd.S_below (zkS q0) hb); have A0 := zK (Kd.R_below (zkR t0) hb); have B0 := zK (Kd.R_below (zkR x0) hb); have D0 := zK (Kd.R_below (zkR O0) hb); have E0 := z7 l hb; have R0 := z8 hb; revert a0 b0 c0 d0 y0 A0 B0 D0 E0 R0; clear X u o0 p0 q0 t0 x0 O0 l HB; intro X u o0 p0 q0 t0 x0 O0 l HB) | ((with_reducible refine gc 18 rfl ?_); refine zF 63 Try.func18 #[.slice L0 C0.length M0, .int .i64 1] rfl (by (try simp only [List.map_toArray, List.map_cons, List.map_nil]); first | done | (rw [show C0.length = O.length from (Kd.R_reads' u.out).1.symm] <;> rfl) | rfl | (simp only [List.length_drop, List.length_take]; rfl)) ?_; (with_reducible refine (laws_heldLifeS.calls N0 _ _ C0 1 B2 _ ?side1 ?side2 X6.out).mono ?_); (case side1 => exact zC (Kd.R_reads' u.out).2.2); (case side2 => rw [show C0.length = O.length from (Kd.R_reads' u.out).1.symm]; exact (Kd.R_reads' u.out).2.1); rintro e w' ⟨rfl, ⟨nd, rfl⟩⟩; refine ⟨_, rfl, ?_⟩))
       go_ret
       exact ⟨zE, zB⟩
     rw [if_pos e4] at H
     have t8 := beq_iff_eq.mpr e4
     have x8 := bne_eq_false_iff_eq.mpr e4
     clear e4
     obtain rfl := z5 H
     go_wp2_with (first | ((with_reducible refine gc 17 rfl ?_); refine zF 45 Try.func17 #[.slice L0 O.length M0, .int .i64 1] rfl zL ?_; (with_reducible refine (laws_markLifeS.calls N0 (fun k_ => some k_ = (.slice L0 O.length M0 : Value).ownBlock) (.slice L0 O.length M0) O 1 x2 C0 w _ ?side1 ?side2 g4.out).mono ?_); (case side1 => repeat (first | (with_reducible first | exact HB.out | apply zb | apply zw | apply ze | refine zs ?_ R2.out) | exact HB.out)); (case side2 => exact Kd.R_tight rfl u.out); rintro e w80 ⟨rfl, n2, hb, hkp⟩; refine ⟨_, rfl, ?_⟩; have a0 := zK (Kd.R_mono (ok' := fun k_ => some k_ ≠ (.slice L0 O.length M0 : Value).ownBlock) (Kd.R_keptB (X.out) hkp (fun k_ hk_ hs_ => (hk_) hs_)) (fun k_ hk_ => hk_.1)); have b0 := zK (Kd.R_reok rfl n2 (fun k_ e_ => u.out.1 k_ e_)); have c0 := zK (blk_kept (zM l) hkp (fun hs_ => (fun e_ => (Kd.R_ne u.out l.out (by decide)) e_) hs_)); have d0 := zK (hb); revert a0 b0 c0 d0; clear X u l HB; intro X u l HB; (try clear hkp); (try clear n2)) | ((with_reducible refine gc 18 rfl ?_); refine zF 48 Try.func18 #[.slice L0 C0.length M0, .int .i64 1] rfl (by (try simp only [List.map_toArray, List.map_cons, List.map_nil]); first | done | (rw [show C0.length = O.length from (Kd.R_reads' u.out).1.symm] <;> rfl) | rfl | (simp only [List.length_drop, List.length_take]; rfl)) ?_; (with_reducible refine (laws_heldLifeS.calls N0 _ _ C0 1 y2 _ ?side1 ?side2 i4.out).mono ?_); (case side1 => exact zC (Kd.R_reads' u.out).2.2); (case side2 => rw [show C0.length = O.length from (Kd.R_reads' u.out).1.symm]; exact (Kd.R_reads' u.out).2.1); rintro e w' ⟨rfl, ⟨nd, rfl⟩⟩; refine ⟨_, rfl, ?_⟩; obtain ⟨a5n, a5o, a5p, a5q, a5s, a5t, a5u, a5x, a5y, a5z⟩ := zc5 l) | ((with_reducible refine gc 12 rfl ?_); refine zF 55 Try.func12 #[.agg #[.slice q1 g0.length t1, .slice x1 i0.length y1, .slice A1 l0.length B1, .slice C1 m0.length D1, .slice E1 n0.length F1]] rfl zL ?_; refine (laws_toNest.calls N0 _ _ g0 _ _ i0 _ _ l0 _ _ m0 _ _ n0 g2 i2 j2 l2 m2 _ (zS N1) O1.out (zS R1) S1.out (zS T1) U1.out (zS V1) X1.out (zS a2) b2.out T4.out).mono ?_; rintro e w82 ⟨v513, v516, v519, v522, v525, rfl, e0, I0, o1, p1, J0, hb⟩; refine ⟨_, rfl, ?_⟩; have a0 := zK (Kd.R_below (zkR X) hb); have b0 := zK (Kd.R_below (zkR u) hb); have c0 := zK (Kd.R_lower e0 (zz zB)); have d0 := zK (Kd.R_lower I0 (zz zB)); have y0 := zK (Kd.S_lower o1 (zz zB)); have A0 := zK (Kd.R_lower p1 (zz zB)); have B0 := zK (Kd.R_lower J0 (zz zB)); have D0 := z7 l hb; have E0 := z8 hb; revert a0 b0 c0 d0 y0 A0 B0 D0 E0; clear X u l HB; intro X u o0 p0 q0 t0 x0 l HB; obtain ⟨a3p, a3q, a3s⟩ := Kd.R_slice o0.out; subst a3s; obtain ⟨a3t, a3u, a3x⟩ := Kd.R_slice p0.out; subst a3x; obtain ⟨a3y, a3z, a4a⟩ := Kd.S_slice q0.out; subst a4a; obtain ⟨a4b, a4c, a4d⟩ := Kd.R_slice t0.out; subst a4d; obtain ⟨a4e, a4f, a4g⟩ := Kd.R_slice x0.out; subst a4g) | ((with_reducible refine gc 13 rfl ?_); refine zF 56 Try.func13 #[.agg #[.slice a3p g2.length a3q, .slice a3t i2.length a3u, .slice a3y j2.length a3z, .slice a4b l2.length a4c, .slice a4e m2.length a4f]] rfl zL ?_; refine (impl_Lives.calls N0 _ _ g2 _ _ i2 _ _ j2 _ _ l2 _ _ m2 M1 _ (zC (Kd.R_reads' o0.out).2.2) ((Kd.R_reads' o0.out).2.1) (zC (Kd.R_reads' p0.out).2.2) ((Kd.R_reads' p0.out).2.1) (zC (Kd.S_reads' q0.out).2.2) ((Kd.S_reads' q0.out).2.1) (zC (Kd.R_reads' t0.out).2.2) ((Kd.R_reads' t0.out).2.1) (zC (Kd.R_reads' x0.out).2.2) ((Kd.R_reads' x0.out).2.1) U4.out).mono ?_; rintro e w88 ⟨v528, rfl, e0, hb⟩; refine ⟨_, rfl, ?_⟩; have a0 := zK (Kd.R_elder' (zkR X) (Kd.R_base e0) hb); have b0 := zK (Kd.R_elder' (zkR u) (Kd.R_base e0) hb); have c0 := zK (Kd.R_below (zkR o0) hb); have d0 := zK (Kd.R_below (zkR p0) hb); have y0 := zK (Kd.S_below (zkS q0) hb); have A0 := zK (Kd.R_below (zkR t0) hb); have B0 := zK (Kd.R_below (zkR x0) hb); have D0 := zK (Kd.R_lower (Kd.R_new' (Kd.R_new' e0 (Kd.R_lt (zkR X))) (Kd.R_lt (zkR u))) (zz zB)); have E0 := z7 l hb; have R0 := z8 hb; revert a0 b0 c0 d0 y0 A0 B0 D0 E0 R0; clear X u o0 p0 q0 t0 x0 l HB; intro X u o0 p0 q0 t0 x0 O0 l HB; obtain ⟨a4j, a4l, a4m⟩ := Kd.R_slice O0.out; subst a4m) | ((with_reducible refine gc 14 rfl ?_); refine zF 59 Try.func14 #[.slice a4j M1.length a4l, .slice y3 G0.length A3] rfl zL ?_; refine (laws_eqLifeS.calls N0 _ _ M1 _ _ G0 true _ (zC (Kd.R_reads' O0.out).2.2) ((Kd.R_reads' O0.out).2.1) (zC (Kd.R_reads' X.out).2.2) ((Kd.R_reads' X.out).2.1) V4.out).mono ?_; rintro e w90 ⟨rfl, hb⟩; refine ⟨_, rfl, ?_⟩; have a0 := zK (Kd.R_below (zkR X) hb); have b0 := zK (Kd.R_below (zkR u) hb); have c0 := zK (Kd.R_below (zkR o0) hb); have d0 := zK (Kd.R_below (zkR p0) hb); have y0 := zK (Kd.S_below (zkS q0) hb); have A0 := zK (Kd.R_below (zkR t0) hb); have B0 := zK (Kd.R_below (zkR x0) hb); have D0 := zK (Kd.R_below (zkR O0) hb); have E0 := z7 l hb; have R0 := z8 hb; revert a0 b0 c0 d0 y0 A0 B0 D0 E0 R0; clear X u o0 p0 q0 t0 x0 O0 l HB; intro X u o0 p0 q0 t0 x0 O0 l HB) | ((with_reducible refine gc 18 rfl ?_); refine zF 63 Try.func18 #[.slice L0 C0.length M0, .int .i64 1] rfl (by (try simp only [List.map_toArray, List.map_cons, List.map_nil]); first | done | (rw [show C0.length = O.length from (Kd.R_reads' u.out).1.symm] <;> rfl) | rfl | (simp only [List.length_drop, List.length_take]; rfl)) ?_; (with_reducible refine (laws_heldLifeS.calls N0 _ _ C0 1 B2 _ ?side1 ?side2 X6.out).mono ?_); (case side1 => exact zC (Kd.R_reads' u.out).2.2); (case side2 => rw [show C0.length = O.length from (Kd.R_reads' u.out).1.symm]; exact (Kd.R_reads' u.out).2.1); rintro e w' ⟨rfl, ⟨nd, rfl⟩⟩; refine ⟨_, rfl, ?_⟩))
     go_ret
     exact ⟨zE, zB⟩
 all_goals go_ret
 all_goals exact ⟨zE, zB⟩
def WT92 (x : S92) : Prop := (Lit.int .i64 x.f0).wf = true ∧ (x.f1.length ≤ maxLen ∧ ∀ l ∈ x.f1, (Lit.int .i64 l).wf = true)
def WT95 (x : S95) : Prop := (Lit.int .i64 x.f0).wf = true ∧ (Lit.int .i64 x.f1).wf = true ∧ (x.f2.length ≤ maxLen ∧ ∀ l ∈ x.f2, (Lit.int .i64 l).wf = true)
def WT124 (x : S124) : Prop := (Lit.int .i64 x.f0).wf = true ∧ (Lit.int .i64 x.f1).wf = true ∧ (Lit.int .i64 x.f2).wf = true
def WT98 (x : S98) : Prop := (x.f0.length ≤ maxLen ∧ ∀ l ∈ x.f0, (Lit.int .i64 l).wf = true) ∧ (x.f1.length ≤ maxLen ∧ ∀ l ∈ x.f1, WT95 l) ∧ WT95 x.f2 ∧ True ∧ (x.f4.length ≤ maxLen ∧ ∀ l ∈ x.f4, WT124 l)
def WT26 (x : S26) : Prop := (x.f0.length ≤ maxLen ∧ ∀ l ∈ x.f0, (Lit.int .i64 l).wf = true) ∧ (x.f1.length ≤ maxLen ∧ ∀ l ∈ x.f1, (Lit.int .i64 l).wf = true) ∧ (x.f2.length ≤ maxLen ∧ ∀ l ∈ x.f2, WT92 l) ∧ (x.f3.length ≤ maxLen ∧ ∀ l ∈ x.f3, WT98 l) ∧ (x.f4.length ≤ maxLen ∧ ∀ l ∈ x.f4, (Lit.int .i64 l).wf = true)
/-- THE ONE PURE STATEMENT of laws_FnExactLives: yours. -/
def laws_FnExactLives.Pure : Prop := ∀ (l : S26), WT26 l → ∃ k, laws_FnExactLives.f k l.f0 l.f1 l.f2 l.f3 l.f4 = some true
theorem laws_FnExactLives.walk (P : laws_FnExactLives.Pure) (l : S26) (cs0 : Array Value) (w : World) (h0 : k26.K w l cs0.toList) (w0 : WT26 l) :
 Calls Try.prog 4 #[.agg cs0] w fun e w' => e = .returned (.bool true) ∧ Below w.heap.size w w' := by
 obtain ⟨k, h⟩ := P l w0
 obtain ⟨q, u, y, z, A, B, E, I, J, L, hcs0, M, g0_0, O, g0_1, T, g0_2, U, g0_3, X, g0_4⟩ := k26_open h0
 obtain rfl : cs0 = #[.slice q (l.f0).length u, .slice y (l.f1).length z, .slice A (l.f2).length B, .slice E (l.f3).length I, .slice J (l.f4).length L] := by cases cs0; simp_all
 refine (laws_FnExactLives.calls k _ _ l.f0 _ _ l.f1 _ _ l.f2 _ _ l.f3 _ _ l.f4 true w g0_0 M g0_1 O g0_2 T g0_3 U g0_4 X h).mono ?_
 rintro e w' ⟨rfl, hd⟩
 exact ⟨rfl, hd⟩
end Go.Proofs.Ytmcboiffbcnalaa.PFnExactLives
