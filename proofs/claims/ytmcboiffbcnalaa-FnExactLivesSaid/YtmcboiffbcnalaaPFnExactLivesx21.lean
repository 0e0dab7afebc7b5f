-- Printed out of the translation by this session's own turned copy of a printer; Lean checks it.
import Derived.Test.YtmcboiffbcnalaaPFnExactLivesx0
import Derived.Test.YtmcboiffbcnalaaPFnExactLivesx19
import Derived.Test.YtmcboiffbcnalaaPFnExactLivesx20
namespace Go.Proofs.Ytmcboiffbcnalaa.PFnExactLives
open Go.RowKit Go.Proofs.YtmcboiffbcnalaaW.PrintWords Go.Proofs.YtmcboiffbcnalaaW.PrintLast Go.Proofs.YtmcboiffbcnalaaW.PrintMore
attribute [local go_sem] max2_int min2_int max_two min_two max_three min_three max_four min_four
set_option linter.unusedVariables false
set_option linter.unusedSimpArgs false
set_option maxHeartbeats 8000000
set_option maxRecDepth 100000
def laws_eqCalc.f (l : Int) (q : Int) (u : Int) (y : Int) (z : Int) (A : Int) : Option (Bool) := if l = y then (if q = z then (if u = A then (some true) else (some false)) else (some false)) else (some false)
theorem laws_eqCalc.calls (q) (u) (y) (z) (A) (B) (r : Bool) (w) (h : laws_eqCalc.f q u y z A B = some r) :
 Calls Try.prog 84 #[.agg #[.int .i64 q, .int .i64 u, .int .i64 y], .agg #[.int .i64 z, .int .i64 A, .int .i64 B]] w fun e w' => e = .returned (.bool r) ∧ Below w.heap.size w w' := by
 have D0 := Try.underlying122
 have HB := zK (Below.refl w.heap.size w)
 have H : (if q = z then (if u = A then (if y = B then (some true) else (some false)) else (some false)) else (some false)) = some r := h
 clear h
 rcases zN (q = z) with E | E
 rw [if_neg E] at H
 have b0 := beq_eq_false_iff_ne.mpr E
 have c0 := bne_iff_ne.mpr E
 obtain rfl := z5 H
 rotate_left
 rw [if_pos E] at H
 have b0 := beq_iff_eq.mpr E
 have c0 := bne_eq_false_iff_eq.mpr E
 clear E
 rcases zN (u = A) with I | I
 rw [if_neg I] at H
 have d0 := beq_eq_false_iff_ne.mpr I
 have e0 := bne_iff_ne.mpr I
 obtain rfl := z5 H
 rotate_left
 rw [if_pos I] at H
 have d0 := beq_iff_eq.mpr I
 have e0 := bne_eq_false_iff_eq.mpr I
 clear I
 by_cases M : y = B
 rw [if_pos M] at H
 have f0 := beq_iff_eq.mpr M
 have g0 := bne_eq_false_iff_eq.mpr M
 clear M
 obtain rfl := z5 H
 rotate_left
 rw [if_neg M] at H
 have f0 := beq_eq_false_iff_ne.mpr M
 have g0 := bne_iff_ne.mpr M
 obtain rfl := z5 H
 all_goals go_enter Try.func84, Try.ntmps84
 all_goals go_wp2_with (first | ((with_reducible refine gd 2 rfl ?_); refine zJ 2 #[.int .i64 q, .int .i64 u, .int .i64 y] 122 ?_; intro E0 hg O0 hbox hb; have O := z8 hb; have T := zK (hbox); have U := z9 hg; have X := z9 hg; revert O T U X; clear HB; intro HB l F0 G0; clear hb hbox hg) | ((with_reducible refine gd 3 rfl ?_); refine zJ 3 #[.int .i64 z, .int .i64 A, .int .i64 B] 122 ?_; intro I0 hg R0 hbox hb; have O := z7 l hb; have T := z8 hb; have U := zK (hbox); have X := z9 hg; have A0 := z9 hg; have B0 := zHH hg l; have C0 := zGG hg l; revert O T U X A0 B0 C0; clear l HB; intro l HB a0 J0 L0 J L; clear hb hbox hg; have M0 := J.out; have N0 := L.out; obtain ⟨i0, j0, l0, m0, n0, o0⟩ := zc3 l; obtain ⟨p0, q0, s0, t0, x0, y0⟩ := zc3 a0))
 all_goals go_ret
 all_goals exact ⟨zE, zB⟩
def laws_eqCalcS.l0 : Nat → List (S122) → List (S122) → Int → Option (Bool)
 | 0, _, _, _ => none
 | k + 1, q, u, l => if l < (q.length : Int) then (if 0 ≤ l then (if l < (u.length : Int) then ((laws_eqCalc.f ((rd_T122 q l).f0) ((rd_T122 q l).f1) ((rd_T122 q l).f2) ((rd_T122 u l).f0) ((rd_T122 u l).f1) ((rd_T122 u l).f2)).bind fun y => (if y = true then (laws_eqCalcS.l0 k q u (wrap64 (l + 1))) else (some false))) else (none)) else (none)) else (some true)
def laws_eqCalcS.f (k : Nat) (l : List (S122)) (q : List (S122)) : Option (Bool) := if (l.length : Int) = (q.length : Int) then (laws_eqCalcS.l0 k l q 0) else (some false)
def laws_eqCalcS.T6 : Bool × List (List Nat × List Nat) := (true, [([], []), ([], []), ([0, 1], [0, 1]), ([2], [2]), ([], []), ([], []), ([4, 5], [4, 5]), ([6], [6]), ([3, 7], [3, 7]), ([8], [8])])
def laws_eqCalcS.B6 : List Nat := [0, 0, 3, 7, 0, 0, 48, 112, 255, 511]
theorem laws_eqCalcS.tab6 : rtab .any (opsOf Try.f81 6) = laws_eqCalcS.T6 := by kernel_rfl
theorem laws_eqCalcS.bits6 : waitsOk laws_eqCalcS.T6.2 laws_eqCalcS.B6 = true := by kernel_rfl
theorem laws_eqCalcS.calls (k) (A0) (c0) (E : List (S122)) (A1) (c1) (I : List (S122)) (r : Bool) (w) (C0 : Kd.C k122 w A0 E.length E) (D0 : E.length ≤ c0) (E0 : Kd.C k122 w A1 I.length I) (F0 : I.length ≤ c1) (h : laws_eqCalcS.f k E I = some r) :
 Calls Try.prog 81 #[.slice A0 E.length c0, .slice A1 I.length c1] w fun e w' => e = .returned (.bool r) ∧ Below w.heap.size w w' := by
 have g1 := Try.underlying122
 have G0 := zK C0
 have m1 := zK D0
 clear C0 D0
 have I0 := zK E0
 have n1 := zK F0
 clear E0 F0
 have HB := zK (Below.refl w.heap.size w)
 have H : (if (E.length : Int) = (I.length : Int) then (laws_eqCalcS.l0 k E I 0) else (some false)) = some r := h
 clear h
 by_cases c3 : (E.length : Int) = (I.length : Int)
 rotate_left
 · rw [if_neg c3] at H
   have p0 := beq_eq_false_iff_ne.mpr c3
   have q0 := bne_iff_ne.mpr c3
   have t0 : (E.length == I.length) = false := by first | simpa using c3 | (simp at c3 ⊢; omega)
   obtain rfl := z5 H
   go_enter Try.func81, Try.ntmps81
   go_wp2
   go_ret
   exact ⟨zE, zB⟩
 rw [if_pos c3] at H
 have p0 := beq_iff_eq.mpr c3
 have q0 := bne_eq_false_iff_eq.mpr c3
 have t0 : (E.length == I.length) = true := by first | simpa using c3 | (simp at c3 ⊢; omega)
 clear c3
 have H' := zK H
 clear H
 go_enter Try.func81, Try.ntmps81
 go_wp2
 go_loopg [5] k (fun kq v5 w' => ∃ (l : Int), v5 = .int .i64 l ∧ Aside0 (laws_eqCalcS.l0 kq E I l = some r) ∧ Aside0 (kq ≤ k) ∧ Aside0 (Below w.heap.size w w'))
 case atStart => exact ⟨(0), zR, H', ⟨Nat.le_refl _⟩, ⟨zB⟩⟩
 clear H'
 try clear c1
 try clear p2
 try clear c3
 try clear p0
 try clear q0
 try clear t0
 obtain ⟨l, rfl, HA, J0, HB⟩ := hrel
 rcases gk with _ | k1
 · exact absurd HA.out (by simp [laws_eqCalcS.l0])
 have H := HA.out
 clear HA
 simp only [laws_eqCalcS.l0] at H
 by_cases c4 : l < (E.length : Int)
 rotate_left
 · rw [if_neg c4] at H
   have N0 := z2 c4
   clear c4
   obtain rfl := z5 H
   go_wp2
   go_ret
   exact ⟨zE, zB⟩
 rw [if_pos c4] at H
 have N0 := z1 c4
 clear c4
 by_cases c5 : 0 ≤ l
 rotate_left
 · rw [if_neg c5] at H
   exact absurd H (by simp)
 rw [if_pos c5] at H
 have i1 := z1 c5
 clear c5
 by_cases c6 : l < (I.length : Int)
 rotate_left
 · rw [if_neg c6] at H
   exact absurd H (by simp)
 rw [if_pos c6] at H
 have j1 := z1 c6
 clear c6
 replace H := z6 H
 obtain ⟨O0, L0, H⟩ := H
 have A7 := zK L0
 clear L0
 by_cases c8 : O0 = true
 rotate_left
 · replace c8 := Bool.eq_false_iff.mpr c8
   subst c8
   rw [if_neg (show ¬ (false = true) by decide)] at H
   obtain rfl := z5 H
   try go_wp2
   have j0 := zK (ze HB.out)
   revert j0
   clear HB
   intro HB
   have b0 : 0 ≤ (l : Int) := z3
   have d0 : l < (E.length : Int) := z3
   obtain ⟨J, m0, q, u, y⟩ := at_T122 G0.out l b0 d0
   have M := y
   have O := u
   have T := q
   cases m0
   (try replace q := zX HB q)
   (try replace u := zX HB u)
   (try replace y := zX HB y)
   replace b0 := eq_true b0
   replace d0 := eq_true d0
   have e0 : 0 ≤ (l : Int) := z3
   have g0 : l < (I.length : Int) := z3
   obtain ⟨L, n0, z, A, B⟩ := at_T122 I0.out l e0 g0
   have U := B
   have X := A
   have a0 := z
   cases n0
   (try replace z := zX HB z)
   (try replace A := zX HB A)
   (try replace B := zX HB B)
   replace e0 := eq_true e0
   replace g0 := eq_true g0
   refine start_ (n := 10) (S := fun w' => w'.cell? (J.add ((l).toNat * 3)) = some (.int .i64 ((rd_T122 E l).f0)) ∧ w'.cell? ⟨(J.add ((l).toNat * 3)).block, (J.add ((l).toNat * 3)).off + 1, none⟩ = some (.int .i64 ((rd_T122 E l).f1)) ∧ w'.cell? ⟨(J.add ((l).toNat * 3)).block, (J.add ((l).toNat * 3)).off + 2, none⟩ = some (.int .i64 ((rd_T122 E l).f2)) ∧ w'.cell? (L.add ((l).toNat * 3)) = some (.int .i64 ((rd_T122 I l).f0)) ∧ w'.cell? ⟨(L.add ((l).toNat * 3)).block, (L.add ((l).toNat * 3)).off + 1, none⟩ = some (.int .i64 ((rd_T122 I l).f1)) ∧ w'.cell? ⟨(L.add ((l).toNat * 3)).block, (L.add ((l).toNat * 3)).off + 2, none⟩ = some (.int .i64 ((rd_T122 I l).f2))) (ds := []) (bl 10 0) (by kernel_rfl) rfl (by kernel_rfl) ⟨(zX HB T:), (zX HB O:), (zX HB M:), (zX HB a0:), (zX HB X:), (zX HB U:)⟩ (fun hHeld => ?_); refine with_tabW laws_eqCalcS.tab6 laws_eqCalcS.bits6 (fun HT_ HW_ => ?_)
   generalize wr.drew = o1 at HB q u y z A B hHeld ⊢
   refine zP 0 17 (bl 10 1) HT_ ?_
   refine zP 1 18 (bl 10 3) HT_ ?_
   refine zP 2 19 (bl 10 7) HT_ ?_
   refine zP 4 21 (bl 10 23) HT_ ?_
   refine zP 5 22 (bl 10 55) HT_ ?_
   refine zP 6 23 (bl 10 119) HT_ ?_
   refine zT 3 20 (bl 10 127) rfl rfl HT_ HW_ hHeld (by rintro w' ⟨s0, s1, s2, s3, s4, s5⟩; go_simp; with_reducible rfl) ?_
   refine zT 7 24 (bl 10 255) rfl rfl HT_ HW_ hHeld (by rintro w' ⟨s0, s1, s2, s3, s4, s5⟩; go_simp; with_reducible rfl) ?_
   refine one_ (i := 8) (N := some 25) (bl 10 511) rfl rfl (one_of HT_.out (by kernel_rfl)) (by decide) (fun K hK => ?_)
   refine goes_ Try.func84 (by kernel_rfl) rfl #[.agg #[.int .i64 ((rd_T122 E l).f0), .int .i64 ((rd_T122 E l).f1), .int .i64 ((rd_T122 E l).f2)], .agg #[.int .i64 ((rd_T122 I l).f0), .int .i64 ((rd_T122 I l).f1), .int .i64 ((rd_T122 I l).f2)]] (by rfl) rfl rfl zL ?_
   with_reducible refine (laws_eqCalc.calls ((rd_T122 E l).f0) ((rd_T122 E l).f1) ((rd_T122 E l).f2) ((rd_T122 I l).f0) ((rd_T122 I l).f1) ((rd_T122 I l).f2) false _ A7.out).mono ?_
   rintro e p1 ⟨rfl, hb⟩
   refine ⟨_, rfl, ?_⟩
   have j0 := z8 hb
   revert j0
   clear HB
   intro HB
   (try clear hb)
   (try clear hb2)
   (try clear hk)
   (try clear hi)
   refine hK.out _ _ ⟨(zX HB T:), (zX HB O:), (zX HB M:), (zX HB a0:), (zX HB X:), (zX HB U:)⟩ (fun hHeld => ?_)
   clear hK K
   refine zU 25 ?_
   refine zP 9 26 (bl 10 1023) HT_ ?_
   refine done_ (done_of HT_.out (by kernel_rfl)) ?_
   try go_wp2
   go_ret
   exact ⟨zE, zB⟩
 subst c8
 rw [if_pos rfl] at H
 have H' := zK H
 clear H
 try go_wp2
 have j0 := zK (ze HB.out)
 revert j0
 clear HB
 intro HB
 have b0 : 0 ≤ (l : Int) := z3
 have d0 : l < (E.length : Int) := z3
 obtain ⟨J, m0, q, u, y⟩ := at_T122 G0.out l b0 d0
 have M := y
 have O := u
 have T := q
 cases m0
 (try replace q := zX HB q)
 (try replace u := zX HB u)
 (try replace y := zX HB y)
 replace b0 := eq_true b0
 replace d0 := eq_true d0
 have e0 : 0 ≤ (l : Int) := z3
 have g0 : l < (I.length : Int) := z3
 obtain ⟨L, n0, z, A, B⟩ := at_T122 I0.out l e0 g0
 have U := B
 have X := A
 have a0 := z
 cases n0
 (try replace z := zX HB z)
 (try replace A := zX HB A)
 (try replace B := zX HB B)
 replace e0 := eq_true e0
 replace g0 := eq_true g0
 refine start_ (n := 10) (S := fun w' => w'.cell? (J.add ((l).toNat * 3)) = some (.int .i64 ((rd_T122 E l).f0)) ∧ w'.cell? ⟨(J.add ((l).toNat * 3)).block, (J.add ((l).toNat * 3)).off + 1, none⟩ = some (.int .i64 ((rd_T122 E l).f1)) ∧ w'.cell? ⟨(J.add ((l).toNat * 3)).block, (J.add ((l).toNat * 3)).off + 2, none⟩ = some (.int .i64 ((rd_T122 E l).f2)) ∧ w'.cell? (L.add ((l).toNat * 3)) = some (.int .i64 ((rd_T122 I l).f0)) ∧ w'.cell? ⟨(L.add ((l).toNat * 3)).block, (L.add ((l).toNat * 3)).off + 1, none⟩ = some (.int .i64 ((rd_T122 I l).f1)) ∧ w'.cell? ⟨(L.add ((l).toNat * 3)).block, (L.add ((l).toNat * 3)).off + 2, none⟩ = some (.int .i64 ((rd_T122 I l).f2))) (ds := []) (bl 10 0) (by kernel_rfl) rfl (by kernel_rfl) ⟨(zX HB T:), (zX HB O:), (zX HB M:), (zX HB a0:), (zX HB X:), (zX HB U:)⟩ (fun hHeld => ?_); refine with_tabW laws_eqCalcS.tab6 laws_eqCalcS.bits6 (fun HT_ HW_ => ?_)
 generalize wr.drew = w9 at HB q u y z A B hHeld ⊢
 refine zP 0 17 (bl 10 1) HT_ ?_
 refine zP 1 18 (bl 10 3) HT_ ?_
 refine zP 2 19 (bl 10 7) HT_ ?_
 refine zP 4 21 (bl 10 23) HT_ ?_
 refine zP 5 22 (bl 10 55) HT_ ?_
 refine zP 6 23 (bl 10 119) HT_ ?_
 refine zT 3 20 (bl 10 127) rfl rfl HT_ HW_ hHeld (by rintro w' ⟨s0, s1, s2, s3, s4, s5⟩; go_simp; with_reducible rfl) ?_
 refine zT 7 24 (bl 10 255) rfl rfl HT_ HW_ hHeld (by rintro w' ⟨s0, s1, s2, s3, s4, s5⟩; go_simp; with_reducible rfl) ?_
 refine one_ (i := 8) (N := some 25) (bl 10 511) rfl rfl (one_of HT_.out (by kernel_rfl)) (by decide) (fun K hK => ?_)
 refine goes_ Try.func84 (by kernel_rfl) rfl #[.agg #[.int .i64 ((rd_T122 E l).f0), .int .i64 ((rd_T122 E l).f1), .int .i64 ((rd_T122 E l).f2)], .agg #[.int .i64 ((rd_T122 I l).f0), .int .i64 ((rd_T122 I l).f1), .int .i64 ((rd_T122 I l).f2)]] (by rfl) rfl rfl zL ?_
 with_reducible refine (laws_eqCalc.calls ((rd_T122 E l).f0) ((rd_T122 E l).f1) ((rd_T122 E l).f2) ((rd_T122 I l).f0) ((rd_T122 I l).f1) ((rd_T122 I l).f2) true _ A7.out).mono ?_
 rintro e q1 ⟨rfl, hb⟩
 refine ⟨_, rfl, ?_⟩
 have j0 := z8 hb
 revert j0
 clear HB
 intro HB
 (try clear hb)
 (try clear hb2)
 (try clear hk)
 (try clear hi)
 refine hK.out _ _ ⟨(zX HB T:), (zX HB O:), (zX HB M:), (zX HB a0:), (zX HB X:), (zX HB U:)⟩ (fun hHeld => ?_)
 clear hK K
 refine zU 25 ?_
 refine zP 9 26 (bl 10 1023) HT_ ?_
 refine done_ (done_of HT_.out (by kernel_rfl)) ?_
 try go_wp2
 go_roundg k1
 case measure => have := J0.out; omega
 case rel => exact ⟨(wrap64 (l + 1)), zR, H', ⟨by have := J0.out; omega⟩, ⟨zB⟩⟩
def laws_eqKernel.f (k : Nat) (l : List Int) (q : List (S76)) (u : Int) (y : Int) (z : List Int) (A : Bool) (B : List (S122)) (E : List Int) (I : List (S76)) (J : Int) (L : Int) (M : List Int) (O : Bool) (T : List (S122)) : Option (Bool) := (laws_eqIntS.f k l E).bind fun U => (if U = true then ((laws_eqAccessS.f k q I).bind fun X => (if X = true then ((laws_eqAccess.f k u y z J L M).bind fun a0 => (if a0 = true then (if (A != O) = true then (some false) else ((laws_eqCalcS.f k B T).bind fun b0 => (if b0 = true then (some true) else (some false)))) else (some false))) else (some false))) else (some false))
theorem laws_eqKernel.calls (k) (e0) (f0) (z : List Int) (g0) (i0) (A : List (S76)) (X) (a0) (j0) (l0) (B : List Int) (u : Bool) (m0) (n0) (E : List (S122)) (o0) (p0) (I : List Int) (q0) (s0) (J : List (S76)) (b0) (c0) (t0) (x0) (L : List Int) (y : Bool) (y0) (A0) (M : List (S122)) (r : Bool) (w) (I0 : Kd.C (Kd.int .i64) w e0 z.length z) (J0 : z.length ≤ f0) (L0 : Kd.C k76 w g0 A.length A) (M0 : A.length ≤ i0) (N0 : Kd.C (Kd.int .i64) w j0 B.length B) (O0 : B.length ≤ l0) (R0 : Kd.C k122 w m0 E.length E) (S0 : E.length ≤ n0) (T0 : Kd.C (Kd.int .i64) w o0 I.length I) (U0 : I.length ≤ p0) (V0 : Kd.C k76 w q0 J.length J) (X0 : J.length ≤ s0) (a1 : Kd.C (Kd.int .i64) w t0 L.length L) (b1 : L.length ≤ x0) (c1 : Kd.C k122 w y0 M.length M) (d1 : M.length ≤ A0) (h : laws_eqKernel.f k z A X a0 B u E I J b0 c0 L y M = some r) :
 Calls Try.prog 58 #[.agg #[.slice e0 z.length f0, .slice g0 A.length i0, .int .i64 X, .int .i64 a0, .slice j0 B.length l0, .bool u, .slice m0 E.length n0], .agg #[.slice o0 I.length p0, .slice q0 J.length s0, .int .i64 b0, .int .i64 c0, .slice t0 L.length x0, .bool y, .slice y0 M.length A0]] w fun e w' => e = .returned (.bool r) ∧ Below w.heap.size w w' := by
 have x4 := Try.underlying79
 have y4 := Try.underlying76
 have m1 := zK I0
 have n1 := zK J0
 clear I0 J0
 have o1 := zK L0
 have p1 := zK M0
 clear L0 M0
 have q1 := zK N0
 have s1 := zK O0
 clear N0 O0
 have t1 := zK R0
 have x1 := zK S0
 clear R0 S0
 have y1 := zK T0
 have A1 := zK U0
 clear T0 U0
 have B1 := zK V0
 have C1 := zK X0
 clear V0 X0
 have D1 := zK a1
 have E1 := zK b1
 clear a1 b1
 have F1 := zK c1
 have G1 := zK d1
 clear c1 d1
 have HB := zK (Below.refl w.heap.size w)
 have H : ((laws_eqIntS.f k z I).bind fun D0 => (if D0 = true then ((laws_eqAccessS.f k A J).bind fun E0 => (if E0 = true then ((laws_eqAccess.f k X a0 B b0 c0 L).bind fun F0 => (if F0 = true then (if (u != y) = true then (some false) else ((laws_eqCalcS.f k E M).bind fun G0 => (if G0 = true then (some true) else (some false)))) else (some false))) else (some false))) else (some false))) = some r := h
 clear h
 replace H := z6 H
 obtain ⟨D0, I1, H⟩ := H
 have A3 := zK I1
 clear I1
 rcases zN (D0 = true) with c4 | c4
 replace c4 := Bool.eq_false_iff.mpr c4
 subst c4
 rw [if_neg (show ¬ (false = true) by decide)] at H
 obtain rfl := z5 H
 rotate_left
 subst c4
 rw [if_pos rfl] at H
 replace H := z6 H
 obtain ⟨E0, J1, H⟩ := H
 have A5 := zK J1
 clear J1
 rcases zN (E0 = true) with c6 | c6
 replace c6 := Bool.eq_false_iff.mpr c6
 subst c6
 rw [if_neg (show ¬ (false = true) by decide)] at H
 obtain rfl := z5 H
 rotate_left
 subst c6
 rw [if_pos rfl] at H
 replace H := z6 H
 obtain ⟨F0, L1, H⟩ := H
 have A7 := zK L1
 clear L1
 rcases zN (F0 = true) with c8 | c8
 replace c8 := Bool.eq_false_iff.mpr c8
 subst c8
 rw [if_neg (show ¬ (false = true) by decide)] at H
 obtain rfl := z5 H
 rotate_left
 subst c8
 rw [if_pos rfl] at H
 by_cases c9 : (u != y) = true
 rw [if_pos c9] at H
 have M1 : (u != y) = true := c9
 (try (have N1 : decide (u = y) = false := by simpa using c9))
 (try (have O1 : (u == y) = false := by simpa using c9))
 (try (have D4 : ¬ (u = y) := by simpa using c9))
 clear c9
 obtain rfl := z5 H
 rotate_left
 rw [if_neg c9] at H
 have M1 : (u != y) = false := by simpa using c9
 (try (have N1 : decide (u = y) = true := by simpa using c9))
 (try (have O1 : (u == y) = true := by simpa using c9))
 clear c9
 replace H := z6 H
 obtain ⟨G0, j1, H⟩ := H
 have f4 := zK j1
 clear j1
 by_cases e1 : G0 = true
 subst e1
 rw [if_pos rfl] at H
 obtain rfl := z5 H
 rotate_left
 replace e1 := Bool.eq_false_iff.mpr e1
 subst e1
 rw [if_neg (show ¬ (false = true) by decide)] at H
 obtain rfl := z5 H
 all_goals go_enter Try.func58, Try.ntmps58
 all_goals go_wp2_with (first | ((with_reducible refine gd 2 rfl ?_); refine zJ 2 #[.slice e0 z.length f0, .slice g0 A.length i0, .int .i64 X, .int .i64 a0, .slice j0 B.length l0, .bool u, .slice m0 E.length n0] 79 ?_; intro l4 hg E4 hbox hb; have O := z8 hb; have T := zK (hbox); have U := z9 hg; have l1 := z9 hg; revert O T U l1; clear HB; intro HB l m4 n4; clear hb hbox hg) | ((with_reducible refine gd 3 rfl ?_); refine zJ 3 #[.slice o0 I.length p0, .slice q0 J.length s0, .int .i64 b0, .int .i64 c0, .slice t0 L.length x0, .bool y, .slice y0 M.length A0] 79 ?_; intro o4 hg F4 hbox hb; have O := z7 l hb; have T := z8 hb; have U := zK (hbox); have l1 := z9 hg; have g4 := z9 hg; have i4 := zHH hg l; have j4 := zGG hg l; revert O T U l1 g4 i4 j4; clear l HB; intro l HB q p4 q4 B0 C0; clear hb hbox hg; have s4 := B0.out; have t4 := C0.out; obtain ⟨R1, S1, T1, U1, V1, X1, a2, b2, c2, d2, e2, f2, g2, i2⟩ := zc7 l; obtain ⟨j2, l2, m2, n2, o2, p2, q2, s2, t2, x2, y2, A2, B2, C2⟩ := zc7 q) | ((with_reducible refine gc 27 rfl ?_); refine zF 9 Try.func27 #[.slice e0 z.length f0, .slice o0 I.length p0] rfl zL ?_; refine (laws_eqIntS.calls k _ _ z _ _ I _ _ (zS m1) n1.out (zS y1) A1.out A3.out).mono ?_; rintro e w' ⟨rfl, ⟨nd, rfl⟩⟩; refine ⟨_, rfl, ?_⟩) | ((with_reducible refine gc 79 rfl ?_); refine zF 15 Try.func79 #[.slice g0 A.length i0, .slice q0 J.length s0] rfl zL ?_; refine (laws_eqAccessS.calls k _ _ A _ _ J _ _ (zS o1) p1.out (zS B1) C1.out A5.out).mono ?_; rintro e G4 ⟨rfl, hb⟩; refine ⟨_, rfl, ?_⟩; have O := z7 l hb; have T := z7 q hb; have U := z8 hb; revert O T U; clear l q HB; intro l q HB; obtain ⟨D2, E2, F2, G2, I2, J2, L2, M2, N2, O2, R2, T2, U2, V2⟩ := zc7 l; obtain ⟨X2, a3, b3, c3, d3, e3, f3, g3, i3, j3, l3, m3, n3, o3⟩ := zc7 q) | ((with_reducible refine gc 80 rfl ?_); refine zF 21 Try.func80 #[.agg #[.int .i64 X, .int .i64 a0, .slice j0 B.length l0], .agg #[.int .i64 b0, .int .i64 c0, .slice t0 L.length x0]] rfl zL ?_; refine (laws_eqAccess.calls k X a0 _ _ B b0 c0 _ _ L _ _ (zS q1) s1.out (zS D1) E1.out A7.out).mono ?_; rintro e I4 ⟨rfl, hb⟩; refine ⟨_, rfl, ?_⟩; have O := z7 l hb; have T := z7 q hb; have U := z8 hb; revert O T U; clear l q HB; intro l q HB; obtain ⟨p3, q3, s3, t3, x3, y3, B3, C3, D3, E3, F3, G3, I3, J3⟩ := zc7 l; obtain ⟨L3, M3, N3, O3, R3, S3, T3, U3, V3, X3, a4, b4, d4, e4⟩ := zc7 q) | ((with_reducible refine gc 81 rfl ?_); refine zF 32 Try.func81 #[.slice m0 E.length n0, .slice y0 M.length A0] rfl zL ?_; refine (laws_eqCalcS.calls k _ _ E _ _ M _ _ (zS t1) x1.out (zS F1) G1.out f4.out).mono ?_; rintro e J4 ⟨rfl, hb⟩; refine ⟨_, rfl, ?_⟩; have O := z7 l hb; have T := z7 q hb; have U := z8 hb; revert O T U; clear l q HB; intro l q HB))
 all_goals go_ret
 all_goals exact ⟨zE, zB⟩
end Go.Proofs.Ytmcboiffbcnalaa.PFnExactLives
