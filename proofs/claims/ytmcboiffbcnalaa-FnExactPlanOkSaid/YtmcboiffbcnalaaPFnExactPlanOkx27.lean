-- Printed out of the translation by this session's own turned copy of a printer; Lean checks it.
import Derived.Test.YtmcboiffbcnalaaPFnExactPlanOkx0
import Derived.Test.YtmcboiffbcnalaaPFnExactPlanOkx26
namespace Go.Proofs.Ytmcboiffbcnalaa.PFnExactPlanOk
open Go.RowKit Go.Proofs.YtmcboiffbcnalaaW.PrintWords Go.Proofs.YtmcboiffbcnalaaW.PrintLast Go.Proofs.YtmcboiffbcnalaaW.PrintMore
attribute [local go_sem] max2_int min2_int max_two min_two max_three min_three max_four min_four
set_option linter.unusedVariables false
set_option linter.unusedSimpArgs false
set_option maxHeartbeats 8000000
set_option maxRecDepth 100000
def laws_eqAccessS.l0 : Nat → List (S76) → List (S76) → Int → Option (Bool)
 | 0, _, _, _ => none
 | k + 1, l, q, a => if a < (l.length : Int) then (if 0 ≤ a then (if a < (q.length : Int) then ((laws_eqAccess.f k ((rd_T76 l a).f0) ((rd_T76 l a).f1) ((rd_T76 l a).f2) ((rd_T76 q a).f0) ((rd_T76 q a).f1) ((rd_T76 q a).f2)).bind fun u => (if u = true then (laws_eqAccessS.l0 k l q (wrap64 (a + 1))) else (some false))) else (none)) else (none)) else (some true)
def laws_eqAccessS.f (k : Nat) (a : List (S76)) (l : List (S76)) : Option (Bool) := if (a.length : Int) = (l.length : Int) then (laws_eqAccessS.l0 k a l 0) else (some false)
def laws_eqAccessS.T6 : Bool × List (List Nat × List Nat) := (true, [([], []), ([], []), ([0, 1], [0, 1]), ([2], [2]), ([], []), ([], []), ([4, 5], [4, 5]), ([6], [6]), ([3, 7], [3, 7]), ([8], [8])])
def laws_eqAccessS.B6 : List Nat := [0, 0, 3, 7, 0, 0, 48, 112, 255, 511]
theorem laws_eqAccessS.tab6 : rtab .any (opsOf Try.f79 6) = laws_eqAccessS.T6 := by kernel_rfl
theorem laws_eqAccessS.bits6 : waitsOk laws_eqAccessS.T6.2 laws_eqAccessS.B6 = true := by kernel_rfl
theorem laws_eqAccessS.calls (k) (A0) (c0) (A : List (S76)) (A1) (c1) (B : List (S76)) (r : Bool) (w) (N0 : Kd.C k76 w A0 A.length A) (O0 : A.length ≤ c0) (R0 : Kd.C k76 w A1 B.length B) (S0 : B.length ≤ c1) (h : laws_eqAccessS.f k A B = some r) :
 Calls Try.prog 79 #[.slice A0 A.length c0, .slice A1 B.length c1] w fun e w' => e = .returned (.bool r) ∧ Below w.heap.size w w' := by
 have x1 := Try.underlying76
 have T0 := zK N0
 have C1 := zK O0
 clear N0 O0
 have U0 := zK R0
 have D1 := zK S0
 clear R0 S0
 have HB := zK (Below.refl w.heap.size w)
 have H : (if (A.length : Int) = (B.length : Int) then (laws_eqAccessS.l0 k A B 0) else (some false)) = some r := h
 clear h
 by_cases c3 : (A.length : Int) = (B.length : Int)
 rotate_left
 · rw [if_neg c3] at H
   have F0 := beq_eq_false_iff_ne.mpr c3
   have G0 := bne_iff_ne.mpr c3
   have I0 : (A.length == B.length) = false := by first | simpa using c3 | (simp at c3 ⊢; omega)
   obtain rfl := z5 H
   go_enter Try.func79, Try.ntmps79
   go_wp2
   go_ret
   exact ⟨zE, zB⟩
 rw [if_pos c3] at H
 have F0 := beq_iff_eq.mpr c3
 have G0 := bne_eq_false_iff_eq.mpr c3
 have I0 : (A.length == B.length) = true := by first | simpa using c3 | (simp at c3 ⊢; omega)
 clear c3
 have H' := zK H
 clear H
 go_enter Try.func79, Try.ntmps79
 go_wp2
 go_loopg [5] k (fun kq v5 w' => ∃ (a : Int), v5 = .int .i64 a ∧ Aside0 (laws_eqAccessS.l0 kq A B a = some r) ∧ Aside0 (kq ≤ k) ∧ Aside0 (Below w.heap.size w w'))
 case atStart => exact ⟨(0), zR, H', ⟨Nat.le_refl _⟩, ⟨zB⟩⟩
 clear H'
 try clear c1
 try clear p2
 try clear c3
 try clear F0
 try clear G0
 try clear I0
 obtain ⟨a, rfl, HA, V0, HB⟩ := hrel
 rcases gk with _ | k1
 · exact absurd HA.out (by simp [laws_eqAccessS.l0])
 have H := HA.out
 clear HA
 simp only [laws_eqAccessS.l0] at H
 by_cases c4 : a < (A.length : Int)
 rotate_left
 · rw [if_neg c4] at H
   have b1 := z2 c4
   clear c4
   obtain rfl := z5 H
   go_wp2
   go_ret
   exact ⟨zE, zB⟩
 rw [if_pos c4] at H
 have b1 := z1 c4
 clear c4
 by_cases c5 : 0 ≤ a
 rotate_left
 · rw [if_neg c5] at H
   exact absurd H (by simp)
 rw [if_pos c5] at H
 have y1 := z1 c5
 clear c5
 by_cases c6 : a < (B.length : Int)
 rotate_left
 · rw [if_neg c6] at H
   exact absurd H (by simp)
 rw [if_pos c6] at H
 have B1 := z1 c6
 clear c6
 replace H := z6 H
 obtain ⟨d1, X0, H⟩ := H
 have A7 := zK X0
 clear X0
 by_cases c8 : d1 = true
 rotate_left
 · replace c8 := Bool.eq_false_iff.mpr c8
   subst c8
   rw [if_neg (show ¬ (false = true) by decide)] at H
   obtain rfl := z5 H
   try go_wp2
   have B0 := zK (ze HB.out)
   revert B0
   clear HB
   intro HB
   have n0 : 0 ≤ (a : Int) := z3
   have o0 : a < (A.length : Int) := z3
   obtain ⟨D, g0, i0, C0, l, q, u, I, J⟩ := at_T76 T0.out a n0 o0
   have L := u
   have M := q
   have O := l
   cases C0
   (try replace l := zX HB l)
   (try replace q := zX HB q)
   (try replace u := zX HB u)
   have T := zK J
   have t0 := zK I
   clear J I
   replace n0 := eq_true n0
   replace o0 := eq_true o0
   have p0 : 0 ≤ (a : Int) := z3
   have q0 : a < (B.length : Int) := z3
   obtain ⟨E, j0, m0, D0, x, y, z, U, X⟩ := at_T76 U0.out a p0 q0
   have a0 := z
   have b0 := y
   have d0 := x
   cases D0
   (try replace x := zX HB x)
   (try replace y := zX HB y)
   (try replace z := zX HB z)
   have e0 := zK X
   have x0 := zK U
   clear X U
   replace p0 := eq_true p0
   replace q0 := eq_true q0
   refine start_ (n := 10) (S := fun w' => w'.cell? (D.add ((a).toNat * 3)) = some (.int .i64 ((rd_T76 A a).f0)) ∧ w'.cell? ⟨(D.add ((a).toNat * 3)).block, (D.add ((a).toNat * 3)).off + 1, none⟩ = some (.int .i64 ((rd_T76 A a).f1)) ∧ w'.cell? ⟨(D.add ((a).toNat * 3)).block, (D.add ((a).toNat * 3)).off + 2, none⟩ = some (.slice g0 ((rd_T76 A a).f2).length i0) ∧ w'.cell? (E.add ((a).toNat * 3)) = some (.int .i64 ((rd_T76 B a).f0)) ∧ w'.cell? ⟨(E.add ((a).toNat * 3)).block, (E.add ((a).toNat * 3)).off + 1, none⟩ = some (.int .i64 ((rd_T76 B a).f1)) ∧ w'.cell? ⟨(E.add ((a).toNat * 3)).block, (E.add ((a).toNat * 3)).off + 2, none⟩ = some (.slice j0 ((rd_T76 B a).f2).length m0)) (ds := []) (bl 10 0) (by kernel_rfl) rfl (by kernel_rfl) ⟨(zX HB O:), (zX HB M:), (zX HB L:), (zX HB d0:), (zX HB b0:), (zX HB a0:)⟩ (fun hHeld => ?_); refine with_tabW laws_eqAccessS.tab6 laws_eqAccessS.bits6 (fun HT_ HW_ => ?_)
   generalize wr.drew = E1 at HB T e0 l q u x y z hHeld ⊢
   refine zP 0 17 (bl 10 1) HT_ ?_
   refine zP 1 18 (bl 10 3) HT_ ?_
   refine zP 2 19 (bl 10 7) HT_ ?_
   refine zP 4 21 (bl 10 23) HT_ ?_
   refine zP 5 22 (bl 10 55) HT_ ?_
   refine zP 6 23 (bl 10 119) HT_ ?_
   refine zT 3 20 (bl 10 127) rfl rfl HT_ HW_ hHeld (by rintro w' ⟨s0, s1, s2, s3, s4, s5⟩; go_simp; with_reducible rfl) ?_
   refine zT 7 24 (bl 10 255) rfl rfl HT_ HW_ hHeld (by rintro w' ⟨s0, s1, s2, s3, s4, s5⟩; go_simp; with_reducible rfl) ?_
   refine one_ (i := 8) (N := some 25) (bl 10 511) rfl rfl (one_of HT_.out (by kernel_rfl)) (by decide) (fun K hK => ?_)
   refine goes_ Try.func80 (by kernel_rfl) rfl #[.agg #[.int .i64 ((rd_T76 A a).f0), .int .i64 ((rd_T76 A a).f1), .slice g0 ((rd_T76 A a).f2).length i0], .agg #[.int .i64 ((rd_T76 B a).f0), .int .i64 ((rd_T76 B a).f1), .slice j0 ((rd_T76 B a).f2).length m0]] (by rfl) rfl rfl zL ?_
   refine (laws_eqAccess.calls k1 ((rd_T76 A a).f0) ((rd_T76 A a).f1) _ _ ((rd_T76 A a).f2) ((rd_T76 B a).f0) ((rd_T76 B a).f1) _ _ ((rd_T76 B a).f2) false _ (zS T) t0.out (zS e0) x0.out A7.out).mono ?_
   rintro e F1 ⟨rfl, hb⟩
   refine ⟨_, rfl, ?_⟩
   have B0 := z8 hb
   revert B0
   clear HB
   intro HB
   (try clear hb)
   (try clear hb2)
   (try clear hk)
   (try clear hi)
   refine hK.out _ _ ⟨(zX HB O:), (zX HB M:), (zX HB L:), (zX HB d0:), (zX HB b0:), (zX HB a0:)⟩ (fun hHeld => ?_)
   clear hK K
   refine zU 25 ?_
   refine zP 9 26 (bl 10 1023) HT_ ?_
   refine done_ (done_of HT_.out (by kernel_rfl)) ?_
   try go_wp2
   go_ret
   exact ⟨zE, zB⟩
 subst c8
 rw [if_pos rfl] at H
 have H' := zK H
 clear H
 try go_wp2
 have B0 := zK (ze HB.out)
 revert B0
 clear HB
 intro HB
 have n0 : 0 ≤ (a : Int) := z3
 have o0 : a < (A.length : Int) := z3
 obtain ⟨D, g0, i0, C0, l, q, u, I, J⟩ := at_T76 T0.out a n0 o0
 have L := u
 have M := q
 have O := l
 cases C0
 (try replace l := zX HB l)
 (try replace q := zX HB q)
 (try replace u := zX HB u)
 have T := zK J
 have t0 := zK I
 clear J I
 replace n0 := eq_true n0
 replace o0 := eq_true o0
 have p0 : 0 ≤ (a : Int) := z3
 have q0 : a < (B.length : Int) := z3
 obtain ⟨E, j0, m0, D0, x, y, z, U, X⟩ := at_T76 U0.out a p0 q0
 have a0 := z
 have b0 := y
 have d0 := x
 cases D0
 (try replace x := zX HB x)
 (try replace y := zX HB y)
 (try replace z := zX HB z)
 have e0 := zK X
 have x0 := zK U
 clear X U
 replace p0 := eq_true p0
 replace q0 := eq_true q0
 refine start_ (n := 10) (S := fun w' => w'.cell? (D.add ((a).toNat * 3)) = some (.int .i64 ((rd_T76 A a).f0)) ∧ w'.cell? ⟨(D.add ((a).toNat * 3)).block, (D.add ((a).toNat * 3)).off + 1, none⟩ = some (.int .i64 ((rd_T76 A a).f1)) ∧ w'.cell? ⟨(D.add ((a).toNat * 3)).block, (D.add ((a).toNat * 3)).off + 2, none⟩ = some (.slice g0 ((rd_T76 A a).f2).length i0) ∧ w'.cell? (E.add ((a).toNat * 3)) = some (.int .i64 ((rd_T76 B a).f0)) ∧ w'.cell? ⟨(E.add ((a).toNat * 3)).block, (E.add ((a).toNat * 3)).off + 1, none⟩ = some (.int .i64 ((rd_T76 B a).f1)) ∧ w'.cell? ⟨(E.add ((a).toNat * 3)).block, (E.add ((a).toNat * 3)).off + 2, none⟩ = some (.slice j0 ((rd_T76 B a).f2).length m0)) (ds := []) (bl 10 0) (by kernel_rfl) rfl (by kernel_rfl) ⟨(zX HB O:), (zX HB M:), (zX HB L:), (zX HB d0:), (zX HB b0:), (zX HB a0:)⟩ (fun hHeld => ?_); refine with_tabW laws_eqAccessS.tab6 laws_eqAccessS.bits6 (fun HT_ HW_ => ?_)
 generalize wr.drew = w9 at HB T e0 l q u x y z hHeld ⊢
 refine zP 0 17 (bl 10 1) HT_ ?_
 refine zP 1 18 (bl 10 3) HT_ ?_
 refine zP 2 19 (bl 10 7) HT_ ?_
 refine zP 4 21 (bl 10 23) HT_ ?_
 refine zP 5 22 (bl 10 55) HT_ ?_
 refine zP 6 23 (bl 10 119) HT_ ?_
 refine zT 3 20 (bl 10 127) rfl rfl HT_ HW_ hHeld (by rintro w' ⟨s0, s1, s2, s3, s4, s5⟩; go_simp; with_reducible rfl) ?_
 refine zT 7 24 (bl 10 255) rfl rfl HT_ HW_ hHeld (by rintro w' ⟨s0, s1, s2, s3, s4, s5⟩; go_simp; with_reducible rfl) ?_
 refine one_ (i := 8) (N := some 25) (bl 10 511) rfl rfl (one_of HT_.out (by kernel_rfl)) (by decide) (fun K hK => ?_)
 refine goes_ Try.func80 (by kernel_rfl) rfl #[.agg #[.int .i64 ((rd_T76 A a).f0), .int .i64 ((rd_T76 A a).f1), .slice g0 ((rd_T76 A a).f2).length i0], .agg #[.int .i64 ((rd_T76 B a).f0), .int .i64 ((rd_T76 B a).f1), .slice j0 ((rd_T76 B a).f2).length m0]] (by rfl) rfl rfl zL ?_
 refine (laws_eqAccess.calls k1 ((rd_T76 A a).f0) ((rd_T76 A a).f1) _ _ ((rd_T76 A a).f2) ((rd_T76 B a).f0) ((rd_T76 B a).f1) _ _ ((rd_T76 B a).f2) true _ (zS T) t0.out (zS e0) x0.out A7.out).mono ?_
 rintro e G1 ⟨rfl, hb⟩
 refine ⟨_, rfl, ?_⟩
 have B0 := z8 hb
 revert B0
 clear HB
 intro HB
 (try clear hb)
 (try clear hb2)
 (try clear hk)
 (try clear hi)
 refine hK.out _ _ ⟨(zX HB O:), (zX HB M:), (zX HB L:), (zX HB d0:), (zX HB b0:), (zX HB a0:)⟩ (fun hHeld => ?_)
 clear hK K
 refine zU 25 ?_
 refine zP 9 26 (bl 10 1023) HT_ ?_
 refine done_ (done_of HT_.out (by kernel_rfl)) ?_
 try go_wp2
 go_roundg k1
 case measure => have := V0.out; omega
 case rel => exact ⟨(wrap64 (a + 1)), zR, H', ⟨by have := V0.out; omega⟩, ⟨zB⟩⟩
def laws_eqCalc.f (a : Int) (l : Int) (q : Int) (u : Int) (x : Int) (y : Int) : Option (Bool) := if a = u then (if l = x then (if q = y then (some true) else (some false)) else (some false)) else (some false)
theorem laws_eqCalc.calls (l) (q) (u) (x) (y) (z) (r : Bool) (w) (h : laws_eqCalc.f l q u x y z = some r) :
 Calls Try.prog 84 #[.agg #[.int .i64 l, .int .i64 q, .int .i64 u], .agg #[.int .i64 x, .int .i64 y, .int .i64 z]] w fun e w' => e = .returned (.bool r) ∧ Below w.heap.size w w' := by
 have A0 := Try.underlying122
 have HB := zK (Below.refl w.heap.size w)
 have H : (if l = x then (if q = y then (if u = z then (some true) else (some false)) else (some false)) else (some false)) = some r := h
 clear h
 rcases zN (l = x) with A | A
 rw [if_neg A] at H
 have U := beq_eq_false_iff_ne.mpr A
 have X := bne_iff_ne.mpr A
 obtain rfl := z5 H
 rotate_left
 rw [if_pos A] at H
 have U := beq_iff_eq.mpr A
 have X := bne_eq_false_iff_eq.mpr A
 clear A
 rcases zN (q = y) with B | B
 rw [if_neg B] at H
 have a0 := beq_eq_false_iff_ne.mpr B
 have b0 := bne_iff_ne.mpr B
 obtain rfl := z5 H
 rotate_left
 rw [if_pos B] at H
 have a0 := beq_iff_eq.mpr B
 have b0 := bne_eq_false_iff_eq.mpr B
 clear B
 by_cases I : u = z
 rw [if_pos I] at H
 have c0 := beq_iff_eq.mpr I
 have d0 := bne_eq_false_iff_eq.mpr I
 clear I
 obtain rfl := z5 H
 rotate_left
 rw [if_neg I] at H
 have c0 := beq_eq_false_iff_ne.mpr I
 have d0 := bne_iff_ne.mpr I
 obtain rfl := z5 H
 all_goals go_enter Try.func84, Try.ntmps84
 all_goals go_wp2_with (first | ((with_reducible refine gd 2 rfl ?_); refine zJ 2 #[.int .i64 l, .int .i64 q, .int .i64 u] 122 ?_; intro B0 hg L0 hbox hb; have J := z8 hb; have L := zK (hbox); have M := z9 hg; have O := z9 hg; revert J L M O; clear HB; intro HB a C0 D0; clear hb hbox hg) | ((with_reducible refine gd 3 rfl ?_); refine zJ 3 #[.int .i64 x, .int .i64 y, .int .i64 z] 122 ?_; intro E0 hg M0 hbox hb; have J := z7 a hb; have L := z8 hb; have M := zK (hbox); have O := z9 hg; have t0 := z9 hg; have x0 := zHH hg a; have y0 := zGG hg a; revert J L M O t0 x0 y0; clear a HB; intro a HB T F0 G0 D E; clear hb hbox hg; have I0 := D.out; have J0 := E.out; obtain ⟨e0, f0, g0, i0, j0, l0⟩ := zc3 a; obtain ⟨m0, n0, o0, p0, q0, s0⟩ := zc3 T))
 all_goals go_ret
 all_goals exact ⟨zE, zB⟩
def laws_eqCalcS.l0 : Nat → List (S122) → List (S122) → Int → Option (Bool)
 | 0, _, _, _ => none
 | k + 1, l, q, a => if a < (l.length : Int) then (if 0 ≤ a then (if a < (q.length : Int) then ((laws_eqCalc.f ((rd_T122 l a).f0) ((rd_T122 l a).f1) ((rd_T122 l a).f2) ((rd_T122 q a).f0) ((rd_T122 q a).f1) ((rd_T122 q a).f2)).bind fun u => (if u = true then (laws_eqCalcS.l0 k l q (wrap64 (a + 1))) else (some false))) else (none)) else (none)) else (some true)
def laws_eqCalcS.f (k : Nat) (a : List (S122)) (l : List (S122)) : Option (Bool) := if (a.length : Int) = (l.length : Int) then (laws_eqCalcS.l0 k a l 0) else (some false)
def laws_eqCalcS.T6 : Bool × List (List Nat × List Nat) := (true, [([], []), ([], []), ([0, 1], [0, 1]), ([2], [2]), ([], []), ([], []), ([4, 5], [4, 5]), ([6], [6]), ([3, 7], [3, 7]), ([8], [8])])
def laws_eqCalcS.B6 : List Nat := [0, 0, 3, 7, 0, 0, 48, 112, 255, 511]
theorem laws_eqCalcS.tab6 : rtab .any (opsOf Try.f81 6) = laws_eqCalcS.T6 := by kernel_rfl
theorem laws_eqCalcS.bits6 : waitsOk laws_eqCalcS.T6.2 laws_eqCalcS.B6 = true := by kernel_rfl
theorem laws_eqCalcS.calls (k) (A0) (c0) (A : List (S122)) (A1) (c1) (B : List (S122)) (r : Bool) (w) (x0 : Kd.C k122 w A0 A.length A) (y0 : A.length ≤ c0) (B0 : Kd.C k122 w A1 B.length B) (C0 : B.length ≤ c1) (h : laws_eqCalcS.f k A B = some r) :
 Calls Try.prog 81 #[.slice A0 A.length c0, .slice A1 B.length c1] w fun e w' => e = .returned (.bool r) ∧ Below w.heap.size w w' := by
 have b1 := Try.underlying122
 have D0 := zK x0
 have g1 := zK y0
 clear x0 y0
 have E0 := zK B0
 have i1 := zK C0
 clear B0 C0
 have HB := zK (Below.refl w.heap.size w)
 have H : (if (A.length : Int) = (B.length : Int) then (laws_eqCalcS.l0 k A B 0) else (some false)) = some r := h
 clear h
 by_cases c3 : (A.length : Int) = (B.length : Int)
 rotate_left
 · rw [if_neg c3] at H
   have m0 := beq_eq_false_iff_ne.mpr c3
   have n0 := bne_iff_ne.mpr c3
   have o0 : (A.length == B.length) = false := by first | simpa using c3 | (simp at c3 ⊢; omega)
   obtain rfl := z5 H
   go_enter Try.func81, Try.ntmps81
   go_wp2
   go_ret
   exact ⟨zE, zB⟩
 rw [if_pos c3] at H
 have m0 := beq_iff_eq.mpr c3
 have n0 := bne_eq_false_iff_eq.mpr c3
 have o0 : (A.length == B.length) = true := by first | simpa using c3 | (simp at c3 ⊢; omega)
 clear c3
 have H' := zK H
 clear H
 go_enter Try.func81, Try.ntmps81
 go_wp2
 go_loopg [5] k (fun kq v5 w' => ∃ (a : Int), v5 = .int .i64 a ∧ Aside0 (laws_eqCalcS.l0 kq A B a = some r) ∧ Aside0 (kq ≤ k) ∧ Aside0 (Below w.heap.size w w'))
 case atStart => exact ⟨(0), zR, H', ⟨Nat.le_refl _⟩, ⟨zB⟩⟩
 clear H'
 try clear c1
 try clear p2
 try clear c3
 try clear m0
 try clear n0
 try clear o0
 obtain ⟨a, rfl, HA, F0, HB⟩ := hrel
 rcases gk with _ | k1
 · exact absurd HA.out (by simp [laws_eqCalcS.l0])
 have H := HA.out
 clear HA
 simp only [laws_eqCalcS.l0] at H
 by_cases c4 : a < (A.length : Int)
 rotate_left
 · rw [if_neg c4] at H
   have J0 := z2 c4
   clear c4
   obtain rfl := z5 H
   go_wp2
   go_ret
   exact ⟨zE, zB⟩
 rw [if_pos c4] at H
 have J0 := z1 c4
 clear c4
 by_cases c5 : 0 ≤ a
 rotate_left
 · rw [if_neg c5] at H
   exact absurd H (by simp)
 rw [if_pos c5] at H
 have d1 := z1 c5
 clear c5
 by_cases c6 : a < (B.length : Int)
 rotate_left
 · rw [if_neg c6] at H
   exact absurd H (by simp)
 rw [if_pos c6] at H
 have e1 := z1 c6
 clear c6
 replace H := z6 H
 obtain ⟨L0, G0, H⟩ := H
 have A7 := zK G0
 clear G0
 by_cases c8 : L0 = true
 rotate_left
 · replace c8 := Bool.eq_false_iff.mpr c8
   subst c8
   rw [if_neg (show ¬ (false = true) by decide)] at H
   obtain rfl := z5 H
   try go_wp2
   have e0 := zK (ze HB.out)
   revert e0
   clear HB
   intro HB
   have U : 0 ≤ (a : Int) := z3
   have X : a < (A.length : Int) := z3
   obtain ⟨D, g0, l, q, u⟩ := at_T122 D0.out a U X
   have I := u
   have J := q
   have L := l
   cases g0
   (try replace l := zX HB l)
   (try replace q := zX HB q)
   (try replace u := zX HB u)
   replace U := eq_true U
   replace X := eq_true X
   have a0 : 0 ≤ (a : Int) := z3
   have b0 : a < (B.length : Int) := z3
   obtain ⟨E, i0, x, y, z⟩ := at_T122 E0.out a a0 b0
   have M := z
   have O := y
   have T := x
   cases i0
   (try replace x := zX HB x)
   (try replace y := zX HB y)
   (try replace z := zX HB z)
   replace a0 := eq_true a0
   replace b0 := eq_true b0
   refine start_ (n := 10) (S := fun w' => w'.cell? (D.add ((a).toNat * 3)) = some (.int .i64 ((rd_T122 A a).f0)) ∧ w'.cell? ⟨(D.add ((a).toNat * 3)).block, (D.add ((a).toNat * 3)).off + 1, none⟩ = some (.int .i64 ((rd_T122 A a).f1)) ∧ w'.cell? ⟨(D.add ((a).toNat * 3)).block, (D.add ((a).toNat * 3)).off + 2, none⟩ = some (.int .i64 ((rd_T122 A a).f2)) ∧ w'.cell? (E.add ((a).toNat * 3)) = some (.int .i64 ((rd_T122 B a).f0)) ∧ w'.cell? ⟨(E.add ((a).toNat * 3)).block, (E.add ((a).toNat * 3)).off + 1, none⟩ = some (.int .i64 ((rd_T122 B a).f1)) ∧ w'.cell? ⟨(E.add ((a).toNat * 3)).block, (E.add ((a).toNat * 3)).off + 2, none⟩ = some (.int .i64 ((rd_T122 B a).f2))) (ds := []) (bl 10 0) (by kernel_rfl) rfl (by kernel_rfl) ⟨(zX HB L:), (zX HB J:), (zX HB I:), (zX HB T:), (zX HB O:), (zX HB M:)⟩ (fun hHeld => ?_); refine with_tabW laws_eqCalcS.tab6 laws_eqCalcS.bits6 (fun HT_ HW_ => ?_)
   generalize wr.drew = j1 at HB l q u x y z hHeld ⊢
   refine zP 0 17 (bl 10 1) HT_ ?_
   refine zP 1 18 (bl 10 3) HT_ ?_
   refine zP 2 19 (bl 10 7) HT_ ?_
   refine zP 4 21 (bl 10 23) HT_ ?_
   refine zP 5 22 (bl 10 55) HT_ ?_
   refine zP 6 23 (bl 10 119) HT_ ?_
   refine zT 3 20 (bl 10 127) rfl rfl HT_ HW_ hHeld (by rintro w' ⟨s0, s1, s2, s3, s4, s5⟩; go_simp; with_reducible rfl) ?_
   refine zT 7 24 (bl 10 255) rfl rfl HT_ HW_ hHeld (by rintro w' ⟨s0, s1, s2, s3, s4, s5⟩; go_simp; with_reducible rfl) ?_
   refine one_ (i := 8) (N := some 25) (bl 10 511) rfl rfl (one_of HT_.out (by kernel_rfl)) (by decide) (fun K hK => ?_)
   refine goes_ Try.func84 (by kernel_rfl) rfl #[.agg #[.int .i64 ((rd_T122 A a).f0), .int .i64 ((rd_T122 A a).f1), .int .i64 ((rd_T122 A a).f2)], .agg #[.int .i64 ((rd_T122 B a).f0), .int .i64 ((rd_T122 B a).f1), .int .i64 ((rd_T122 B a).f2)]] (by rfl) rfl rfl zL ?_
   with_reducible refine (laws_eqCalc.calls ((rd_T122 A a).f0) ((rd_T122 A a).f1) ((rd_T122 A a).f2) ((rd_T122 B a).f0) ((rd_T122 B a).f1) ((rd_T122 B a).f2) false _ A7.out).mono ?_
   rintro e m1 ⟨rfl, hb⟩
   refine ⟨_, rfl, ?_⟩
   have e0 := z8 hb
   revert e0
   clear HB
   intro HB
   (try clear hb)
   (try clear hb2)
   (try clear hk)
   (try clear hi)
   refine hK.out _ _ ⟨(zX HB L:), (zX HB J:), (zX HB I:), (zX HB T:), (zX HB O:), (zX HB M:)⟩ (fun hHeld => ?_)
   clear hK K
   refine zU 25 ?_
   refine zP 9 26 (bl 10 1023) HT_ ?_
   refine done_ (done_of HT_.out (by kernel_rfl)) ?_
   try go_wp2
   go_ret
   exact ⟨zE, zB⟩
 subst c8
 rw [if_pos rfl] at H
 have H' := zK H
 clear H
 try go_wp2
 have e0 := zK (ze HB.out)
 revert e0
 clear HB
 intro HB
 have U : 0 ≤ (a : Int) := z3
 have X : a < (A.length : Int) := z3
 obtain ⟨D, g0, l, q, u⟩ := at_T122 D0.out a U X
 have I := u
 have J := q
 have L := l
 cases g0
 (try replace l := zX HB l)
 (try replace q := zX HB q)
 (try replace u := zX HB u)
 replace U := eq_true U
 replace X := eq_true X
 have a0 : 0 ≤ (a : Int) := z3
 have b0 : a < (B.length : Int) := z3
 obtain ⟨E, i0, x, y, z⟩ := at_T122 E0.out a a0 b0
 have M := z
 have O := y
 have T := x
 cases i0
 (try replace x := zX HB x)
 (try replace y := zX HB y)
 (try replace z := zX HB z)
 replace a0 := eq_true a0
 replace b0 := eq_true b0
 refine start_ (n := 10) (S := fun w' => w'.cell? (D.add ((a).toNat * 3)) = some (.int .i64 ((rd_T122 A a).f0)) ∧ w'.cell? ⟨(D.add ((a).toNat * 3)).block, (D.add ((a).toNat * 3)).off + 1, none⟩ = some (.int .i64 ((rd_T122 A a).f1)) ∧ w'.cell? ⟨(D.add ((a).toNat * 3)).block, (D.add ((a).toNat * 3)).off + 2, none⟩ = some (.int .i64 ((rd_T122 A a).f2)) ∧ w'.cell? (E.add ((a).toNat * 3)) = some (.int .i64 ((rd_T122 B a).f0)) ∧ w'.cell? ⟨(E.add ((a).toNat * 3)).block, (E.add ((a).toNat * 3)).off + 1, none⟩ = some (.int .i64 ((rd_T122 B a).f1)) ∧ w'.cell? ⟨(E.add ((a).toNat * 3)).block, (E.add ((a).toNat * 3)).off + 2, none⟩ = some (.int .i64 ((rd_T122 B a).f2))) (ds := []) (bl 10 0) (by kernel_rfl) rfl (by kernel_rfl) ⟨(zX HB L:), (zX HB J:), (zX HB I:), (zX HB T:), (zX HB O:), (zX HB M:)⟩ (fun hHeld => ?_); refine with_tabW laws_eqCalcS.tab6 laws_eqCalcS.bits6 (fun HT_ HW_ => ?_)
 generalize wr.drew = w9 at HB l q u x y z hHeld ⊢
 refine zP 0 17 (bl 10 1) HT_ ?_
 refine zP 1 18 (bl 10 3) HT_ ?_
 refine zP 2 19 (bl 10 7) HT_ ?_
 refine zP 4 21 (bl 10 23) HT_ ?_
 refine zP 5 22 (bl 10 55) HT_ ?_
 refine zP 6 23 (bl 10 119) HT_ ?_
 refine zT 3 20 (bl 10 127) rfl rfl HT_ HW_ hHeld (by rintro w' ⟨s0, s1, s2, s3, s4, s5⟩; go_simp; with_reducible rfl) ?_
 refine zT 7 24 (bl 10 255) rfl rfl HT_ HW_ hHeld (by rintro w' ⟨s0, s1, s2, s3, s4, s5⟩; go_simp; with_reducible rfl) ?_
 refine one_ (i := 8) (N := some 25) (bl 10 511) rfl rfl (one_of HT_.out (by kernel_rfl)) (by decide) (fun K hK => ?_)
 refine goes_ Try.func84 (by kernel_rfl) rfl #[.agg #[.int .i64 ((rd_T122 A a).f0), .int .i64 ((rd_T122 A a).f1), .int .i64 ((rd_T122 A a).f2)], .agg #[.int .i64 ((rd_T122 B a).f0), .int .i64 ((rd_T122 B a).f1), .int .i64 ((rd_T122 B a).f2)]] (by rfl) rfl rfl zL ?_
 with_reducible refine (laws_eqCalc.calls ((rd_T122 A a).f0) ((rd_T122 A a).f1) ((rd_T122 A a).f2) ((rd_T122 B a).f0) ((rd_T122 B a).f1) ((rd_T122 B a).f2) true _ A7.out).mono ?_
 rintro e n1 ⟨rfl, hb⟩
 refine ⟨_, rfl, ?_⟩
 have e0 := z8 hb
 revert e0
 clear HB
 intro HB
 (try clear hb)
 (try clear hb2)
 (try clear hk)
 (try clear hi)
 refine hK.out _ _ ⟨(zX HB L:), (zX HB J:), (zX HB I:), (zX HB T:), (zX HB O:), (zX HB M:)⟩ (fun hHeld => ?_)
 clear hK K
 refine zU 25 ?_
 refine zP 9 26 (bl 10 1023) HT_ ?_
 refine done_ (done_of HT_.out (by kernel_rfl)) ?_
 try go_wp2
 go_roundg k1
 case measure => have := F0.out; omega
 case rel => exact ⟨(wrap64 (a + 1)), zR, H', ⟨by have := F0.out; omega⟩, ⟨zB⟩⟩
end Go.Proofs.Ytmcboiffbcnalaa.PFnExactPlanOk
