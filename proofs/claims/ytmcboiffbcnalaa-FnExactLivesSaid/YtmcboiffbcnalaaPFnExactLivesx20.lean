-- Printed out of the translation by this session's own turned copy of a printer; Lean checks it.
import Derived.Test.YtmcboiffbcnalaaPFnExactLivesx0
import Derived.Test.YtmcboiffbcnalaaPFnExactLivesx19
namespace Go.Proofs.Ytmcboiffbcnalaa.PFnExactLives
open Go.RowKit Go.Proofs.YtmcboiffbcnalaaW.PrintWords Go.Proofs.YtmcboiffbcnalaaW.PrintLast Go.Proofs.YtmcboiffbcnalaaW.PrintMore
attribute [local go_sem] max2_int min2_int max_two min_two max_three min_three max_four min_four
set_option linter.unusedVariables false
set_option linter.unusedSimpArgs false
set_option maxHeartbeats 8000000
set_option maxRecDepth 100000
def laws_eqFixS.l0 : Nat → List (S71) → List (S71) → Int → Option (Bool)
 | 0, _, _, _ => none
 | k + 1, q, u, l => if l < (q.length : Int) then (if 0 ≤ l then (if l < (u.length : Int) then ((laws_eqFix.f k ((rd_T71 q l).f0) ((rd_T71 q l).f1) ((rd_T71 u l).f0) ((rd_T71 u l).f1)).bind fun y => (if y = true then (laws_eqFixS.l0 k q u (wrap64 (l + 1))) else (some false))) else (none)) else (none)) else (some true)
def laws_eqFixS.f (k : Nat) (l : List (S71)) (q : List (S71)) : Option (Bool) := if (l.length : Int) = (q.length : Int) then (laws_eqFixS.l0 k l q 0) else (some false)
def laws_eqFixS.T6 : Bool × List (List Nat × List Nat) := (true, [([], []), ([], []), ([0, 1], [0, 1]), ([2], [2]), ([], []), ([], []), ([4, 5], [4, 5]), ([6], [6]), ([3, 7], [3, 7]), ([8], [8])])
def laws_eqFixS.B6 : List Nat := [0, 0, 3, 7, 0, 0, 48, 112, 255, 511]
theorem laws_eqFixS.tab6 : rtab .any (opsOf Try.f33 6) = laws_eqFixS.T6 := by kernel_rfl
theorem laws_eqFixS.bits6 : waitsOk laws_eqFixS.T6.2 laws_eqFixS.B6 = true := by kernel_rfl
theorem laws_eqFixS.calls (k) (A0) (c0) (A : List (S71)) (A1) (c1) (B : List (S71)) (r : Bool) (w) (M0 : Kd.C k71 w A0 A.length A) (N0 : A.length ≤ c0) (O0 : Kd.C k71 w A1 B.length B) (R0 : B.length ≤ c1) (h : laws_eqFixS.f k A B = some r) :
 Calls Try.prog 33 #[.slice A0 A.length c0, .slice A1 B.length c1] w fun e w' => e = .returned (.bool r) ∧ Below w.heap.size w w' := by
 have p1 := Try.underlying71
 have S0 := zK M0
 have x1 := zK N0
 clear M0 N0
 have T0 := zK O0
 have y1 := zK R0
 clear O0 R0
 have HB := zK (Below.refl w.heap.size w)
 have H : (if (A.length : Int) = (B.length : Int) then (laws_eqFixS.l0 k A B 0) else (some false)) = some r := h
 clear h
 by_cases c3 : (A.length : Int) = (B.length : Int)
 rotate_left
 · rw [if_neg c3] at H
   have E0 := beq_eq_false_iff_ne.mpr c3
   have F0 := bne_iff_ne.mpr c3
   have G0 : (A.length == B.length) = false := by first | simpa using c3 | (simp at c3 ⊢; omega)
   obtain rfl := z5 H
   go_enter Try.func33, Try.ntmps33
   go_wp2
   go_ret
   exact ⟨zE, zB⟩
 rw [if_pos c3] at H
 have E0 := beq_iff_eq.mpr c3
 have F0 := bne_eq_false_iff_eq.mpr c3
 have G0 : (A.length == B.length) = true := by first | simpa using c3 | (simp at c3 ⊢; omega)
 clear c3
 have H' := zK H
 clear H
 go_enter Try.func33, Try.ntmps33
 go_wp2
 go_loopg [5] k (fun kq v5 w' => ∃ (l : Int), v5 = .int .i64 l ∧ Aside0 (laws_eqFixS.l0 kq A B l = some r) ∧ Aside0 (kq ≤ k) ∧ Aside0 (Below w.heap.size w w'))
 case atStart => exact ⟨(0), zR, H', ⟨Nat.le_refl _⟩, ⟨zB⟩⟩
 clear H'
 try clear c1
 try clear p2
 try clear c3
 try clear E0
 try clear F0
 try clear G0
 obtain ⟨l, rfl, HA, U0, HB⟩ := hrel
 rcases gk with _ | k1
 · exact absurd HA.out (by simp [laws_eqFixS.l0])
 have H := HA.out
 clear HA
 simp only [laws_eqFixS.l0] at H
 by_cases c4 : l < (A.length : Int)
 rotate_left
 · rw [if_neg c4] at H
   have a1 := z2 c4
   clear c4
   obtain rfl := z5 H
   go_wp2
   go_ret
   exact ⟨zE, zB⟩
 rw [if_pos c4] at H
 have a1 := z1 c4
 clear c4
 by_cases c5 : 0 ≤ l
 rotate_left
 · rw [if_neg c5] at H
   exact absurd H (by simp)
 rw [if_pos c5] at H
 have q1 := z1 c5
 clear c5
 by_cases c6 : l < (B.length : Int)
 rotate_left
 · rw [if_neg c6] at H
   exact absurd H (by simp)
 rw [if_pos c6] at H
 have t1 := z1 c6
 clear c6
 replace H := z6 H
 obtain ⟨b1, V0, H⟩ := H
 have A7 := zK V0
 clear V0
 by_cases c8 : b1 = true
 rotate_left
 · replace c8 := Bool.eq_false_iff.mpr c8
   subst c8
   rw [if_neg (show ¬ (false = true) by decide)] at H
   obtain rfl := z5 H
   try go_wp2
   have y0 := zK (ze HB.out)
   revert y0
   clear HB
   intro HB
   have m0 : 0 ≤ (l : Int) := z3
   have n0 : l < (A.length : Int) := z3
   obtain ⟨b0, e0, g0, B0, q, u, E, I⟩ := at_T71 S0.out l m0 n0
   have J := u
   have L := q
   cases B0
   (try replace q := zX HB q)
   (try replace u := zX HB u)
   have M := zK I
   have q0 := zK E
   clear I E
   replace m0 := eq_true m0
   replace n0 := eq_true n0
   have o0 : 0 ≤ (l : Int) := z3
   have p0 : l < (B.length : Int) := z3
   obtain ⟨d0, i0, j0, C0, y, z, O, T⟩ := at_T71 T0.out l o0 p0
   have U := z
   have X := y
   cases C0
   (try replace y := zX HB y)
   (try replace z := zX HB z)
   have a0 := zK T
   have t0 := zK O
   clear T O
   replace o0 := eq_true o0
   replace p0 := eq_true p0
   refine start_ (n := 10) (S := fun w' => w'.cell? (b0.add ((l).toNat * 2)) = some (.int .i64 ((rd_T71 A l).f0)) ∧ w'.cell? ⟨(b0.add ((l).toNat * 2)).block, (b0.add ((l).toNat * 2)).off + 1, none⟩ = some (.slice e0 ((rd_T71 A l).f1).length g0) ∧ w'.cell? (d0.add ((l).toNat * 2)) = some (.int .i64 ((rd_T71 B l).f0)) ∧ w'.cell? ⟨(d0.add ((l).toNat * 2)).block, (d0.add ((l).toNat * 2)).off + 1, none⟩ = some (.slice i0 ((rd_T71 B l).f1).length j0)) (ds := []) (bl 10 0) (by kernel_rfl) rfl (by kernel_rfl) ⟨(zX HB L:), (zX HB J:), (zX HB X:), (zX HB U:)⟩ (fun hHeld => ?_); refine with_tabW laws_eqFixS.tab6 laws_eqFixS.bits6 (fun HT_ HW_ => ?_)
   generalize wr.drew = B1 at HB M a0 q u y z hHeld ⊢
   refine zP 0 17 (bl 10 1) HT_ ?_
   refine zP 1 18 (bl 10 3) HT_ ?_
   refine zP 2 19 (bl 10 7) HT_ ?_
   refine zP 4 21 (bl 10 23) HT_ ?_
   refine zP 5 22 (bl 10 55) HT_ ?_
   refine zP 6 23 (bl 10 119) HT_ ?_
   refine zT 3 20 (bl 10 127) rfl rfl HT_ HW_ hHeld (by rintro w' ⟨s0, s1, s2, s3⟩; go_simp; with_reducible rfl) ?_
   refine zT 7 24 (bl 10 255) rfl rfl HT_ HW_ hHeld (by rintro w' ⟨s0, s1, s2, s3⟩; go_simp; with_reducible rfl) ?_
   refine one_ (i := 8) (N := some 25) (bl 10 511) rfl rfl (one_of HT_.out (by kernel_rfl)) (by decide) (fun K hK => ?_)
   refine goes_ Try.func57 (by kernel_rfl) rfl #[.agg #[.int .i64 ((rd_T71 A l).f0), .slice e0 ((rd_T71 A l).f1).length g0], .agg #[.int .i64 ((rd_T71 B l).f0), .slice i0 ((rd_T71 B l).f1).length j0]] (by rfl) rfl rfl zL ?_
   refine (laws_eqFix.calls k1 ((rd_T71 A l).f0) _ _ ((rd_T71 A l).f1) ((rd_T71 B l).f0) _ _ ((rd_T71 B l).f1) false _ (zS M) q0.out (zS a0) t0.out A7.out).mono ?_
   rintro e C1 ⟨rfl, hb⟩
   refine ⟨_, rfl, ?_⟩
   have y0 := z8 hb
   revert y0
   clear HB
   intro HB
   (try clear hb)
   (try clear hb2)
   (try clear hk)
   (try clear hi)
   refine hK.out _ _ ⟨(zX HB L:), (zX HB J:), (zX HB X:), (zX HB U:)⟩ (fun hHeld => ?_)
   clear hK K
   refine zU 25 ?_
   refine zP 9 26 (bl 10 1023) HT_ ?_
   refine done_ (done_of HT_.out (by kernel_rfl)) ?_
   try go_wp2
   go_ret
   exact ⟨zE, zB⟩
 subst c8
 rw [if_pos rfl] at H
 have H' := zK H
 clear H
 try go_wp2
 have y0 := zK (ze HB.out)
 revert y0
 clear HB
 intro HB
 have m0 : 0 ≤ (l : Int) := z3
 have n0 : l < (A.length : Int) := z3
 obtain ⟨b0, e0, g0, B0, q, u, E, I⟩ := at_T71 S0.out l m0 n0
 have J := u
 have L := q
 cases B0
 (try replace q := zX HB q)
 (try replace u := zX HB u)
 have M := zK I
 have q0 := zK E
 clear I E
 replace m0 := eq_true m0
 replace n0 := eq_true n0
 have o0 : 0 ≤ (l : Int) := z3
 have p0 : l < (B.length : Int) := z3
 obtain ⟨d0, i0, j0, C0, y, z, O, T⟩ := at_T71 T0.out l o0 p0
 have U := z
 have X := y
 cases C0
 (try replace y := zX HB y)
 (try replace z := zX HB z)
 have a0 := zK T
 have t0 := zK O
 clear T O
 replace o0 := eq_true o0
 replace p0 := eq_true p0
 refine start_ (n := 10) (S := fun w' => w'.cell? (b0.add ((l).toNat * 2)) = some (.int .i64 ((rd_T71 A l).f0)) ∧ w'.cell? ⟨(b0.add ((l).toNat * 2)).block, (b0.add ((l).toNat * 2)).off + 1, none⟩ = some (.slice e0 ((rd_T71 A l).f1).length g0) ∧ w'.cell? (d0.add ((l).toNat * 2)) = some (.int .i64 ((rd_T71 B l).f0)) ∧ w'.cell? ⟨(d0.add ((l).toNat * 2)).block, (d0.add ((l).toNat * 2)).off + 1, none⟩ = some (.slice i0 ((rd_T71 B l).f1).length j0)) (ds := []) (bl 10 0) (by kernel_rfl) rfl (by kernel_rfl) ⟨(zX HB L:), (zX HB J:), (zX HB X:), (zX HB U:)⟩ (fun hHeld => ?_); refine with_tabW laws_eqFixS.tab6 laws_eqFixS.bits6 (fun HT_ HW_ => ?_)
 generalize wr.drew = w9 at HB M a0 q u y z hHeld ⊢
 refine zP 0 17 (bl 10 1) HT_ ?_
 refine zP 1 18 (bl 10 3) HT_ ?_
 refine zP 2 19 (bl 10 7) HT_ ?_
 refine zP 4 21 (bl 10 23) HT_ ?_
 refine zP 5 22 (bl 10 55) HT_ ?_
 refine zP 6 23 (bl 10 119) HT_ ?_
 refine zT 3 20 (bl 10 127) rfl rfl HT_ HW_ hHeld (by rintro w' ⟨s0, s1, s2, s3⟩; go_simp; with_reducible rfl) ?_
 refine zT 7 24 (bl 10 255) rfl rfl HT_ HW_ hHeld (by rintro w' ⟨s0, s1, s2, s3⟩; go_simp; with_reducible rfl) ?_
 refine one_ (i := 8) (N := some 25) (bl 10 511) rfl rfl (one_of HT_.out (by kernel_rfl)) (by decide) (fun K hK => ?_)
 refine goes_ Try.func57 (by kernel_rfl) rfl #[.agg #[.int .i64 ((rd_T71 A l).f0), .slice e0 ((rd_T71 A l).f1).length g0], .agg #[.int .i64 ((rd_T71 B l).f0), .slice i0 ((rd_T71 B l).f1).length j0]] (by rfl) rfl rfl zL ?_
 refine (laws_eqFix.calls k1 ((rd_T71 A l).f0) _ _ ((rd_T71 A l).f1) ((rd_T71 B l).f0) _ _ ((rd_T71 B l).f1) true _ (zS M) q0.out (zS a0) t0.out A7.out).mono ?_
 rintro e D1 ⟨rfl, hb⟩
 refine ⟨_, rfl, ?_⟩
 have y0 := z8 hb
 revert y0
 clear HB
 intro HB
 (try clear hb)
 (try clear hb2)
 (try clear hk)
 (try clear hi)
 refine hK.out _ _ ⟨(zX HB L:), (zX HB J:), (zX HB X:), (zX HB U:)⟩ (fun hHeld => ?_)
 clear hK K
 refine zU 25 ?_
 refine zP 9 26 (bl 10 1023) HT_ ?_
 refine done_ (done_of HT_.out (by kernel_rfl)) ?_
 try go_wp2
 go_roundg k1
 case measure => have := U0.out; omega
 case rel => exact ⟨(wrap64 (l + 1)), zR, H', ⟨by have := U0.out; omega⟩, ⟨zB⟩⟩
def laws_eqAccess.f (k : Nat) (l : Int) (q : Int) (u : List Int) (y : Int) (z : Int) (A : List Int) : Option (Bool) := if l = y then (if q = z then ((laws_eqIntS.f k u A).bind fun B => (if B = true then (some true) else (some false))) else (some false)) else (some false)
theorem laws_eqAccess.calls (k) (y) (z) (E) (I) (l : List Int) (A) (B) (J) (L) (q : List Int) (r : Bool) (w) (a0 : Kd.C (Kd.int .i64) w E l.length l) (b0 : l.length ≤ I) (c0 : Kd.C (Kd.int .i64) w J q.length q) (d0 : q.length ≤ L) (h : laws_eqAccess.f k y z l A B q = some r) :
 Calls Try.prog 80 #[.agg #[.int .i64 y, .int .i64 z, .slice E l.length I], .agg #[.int .i64 A, .int .i64 B, .slice J q.length L]] w fun e w' => e = .returned (.bool r) ∧ Below w.heap.size w w' := by
 have e1 := Try.underlying76
 have j0 := zK a0
 have l0 := zK b0
 clear a0 b0
 have m0 := zK c0
 have n0 := zK d0
 clear c0 d0
 have HB := zK (Below.refl w.heap.size w)
 have H : (if y = A then (if z = B then ((laws_eqIntS.f k l q).bind fun X => (if X = true then (some true) else (some false))) else (some false)) else (some false)) = some r := h
 clear h
 rcases zN (y = A) with M | M
 rw [if_neg M] at H
 have s0 := beq_eq_false_iff_ne.mpr M
 have t0 := bne_iff_ne.mpr M
 obtain rfl := z5 H
 rotate_left
 rw [if_pos M] at H
 have s0 := beq_iff_eq.mpr M
 have t0 := bne_eq_false_iff_eq.mpr M
 clear M
 rcases zN (z = B) with O | O
 rw [if_neg O] at H
 have x0 := beq_eq_false_iff_ne.mpr O
 have y0 := bne_iff_ne.mpr O
 obtain rfl := z5 H
 rotate_left
 rw [if_pos O] at H
 have x0 := beq_iff_eq.mpr O
 have y0 := bne_eq_false_iff_eq.mpr O
 clear O
 replace H := z6 H
 obtain ⟨X, q0, H⟩ := H
 have A5 := zK q0
 clear q0
 by_cases c6 : X = true
 subst c6
 rw [if_pos rfl] at H
 obtain rfl := z5 H
 rotate_left
 replace c6 := Bool.eq_false_iff.mpr c6
 subst c6
 rw [if_neg (show ¬ (false = true) by decide)] at H
 obtain rfl := z5 H
 all_goals go_enter Try.func80, Try.ntmps80
 all_goals go_wp2_with (first | ((with_reducible refine gd 2 rfl ?_); refine zJ 2 #[.int .i64 y, .int .i64 z, .slice E l.length I] 76 ?_; intro T0 hg g1 hbox hb; have e0 := z8 hb; have f0 := zK (hbox); have g0 := z9 hg; have i0 := z9 hg; revert e0 f0 g0 i0; clear HB; intro HB u U0 V0; clear hb hbox hg) | ((with_reducible refine gd 3 rfl ?_); refine zJ 3 #[.int .i64 A, .int .i64 B, .slice J q.length L] 76 ?_; intro X0 hg i1 hbox hb; have e0 := z7 u hb; have f0 := z8 hb; have g0 := zK (hbox); have i0 := z9 hg; have O0 := z9 hg; have R0 := zHH hg u; have S0 := zGG hg u; revert e0 f0 g0 i0 O0 R0 S0; clear u HB; intro u HB p0 a1 b1 T U; clear hb hbox hg; have c1 := T.out; have d1 := U.out; obtain ⟨A0, B0, C0, D0, E0, F0⟩ := zc3 u; obtain ⟨G0, I0, J0, L0, M0, N0⟩ := zc3 p0) | ((with_reducible refine gc 27 rfl ?_); refine zF 19 Try.func27 #[.slice E l.length I, .slice J q.length L] rfl zL ?_; refine (laws_eqIntS.calls k _ _ l _ _ q _ _ (zS j0) l0.out (zS m0) n0.out A5.out).mono ?_; rintro e w' ⟨rfl, ⟨nd, rfl⟩⟩; refine ⟨_, rfl, ?_⟩))
 all_goals go_ret
 all_goals exact ⟨zE, zB⟩
def laws_eqAccessS.l0 : Nat → List (S76) → List (S76) → Int → Option (Bool)
 | 0, _, _, _ => none
 | k + 1, q, u, l => if l < (q.length : Int) then (if 0 ≤ l then (if l < (u.length : Int) then ((laws_eqAccess.f k ((rd_T76 q l).f0) ((rd_T76 q l).f1) ((rd_T76 q l).f2) ((rd_T76 u l).f0) ((rd_T76 u l).f1) ((rd_T76 u l).f2)).bind fun y => (if y = true then (laws_eqAccessS.l0 k q u (wrap64 (l + 1))) else (some false))) else (none)) else (none)) else (some true)
def laws_eqAccessS.f (k : Nat) (l : List (S76)) (q : List (S76)) : Option (Bool) := if (l.length : Int) = (q.length : Int) then (laws_eqAccessS.l0 k l q 0) else (some false)
def laws_eqAccessS.T6 : Bool × List (List Nat × List Nat) := (true, [([], []), ([], []), ([0, 1], [0, 1]), ([2], [2]), ([], []), ([], []), ([4, 5], [4, 5]), ([6], [6]), ([3, 7], [3, 7]), ([8], [8])])
def laws_eqAccessS.B6 : List Nat := [0, 0, 3, 7, 0, 0, 48, 112, 255, 511]
theorem laws_eqAccessS.tab6 : rtab .any (opsOf Try.f79 6) = laws_eqAccessS.T6 := by kernel_rfl
theorem laws_eqAccessS.bits6 : waitsOk laws_eqAccessS.T6.2 laws_eqAccessS.B6 = true := by kernel_rfl
theorem laws_eqAccessS.calls (k) (A0) (c0) (E : List (S76)) (A1) (c1) (I : List (S76)) (r : Bool) (w) (S0 : Kd.C k76 w A0 E.length E) (T0 : E.length ≤ c0) (U0 : Kd.C k76 w A1 I.length I) (V0 : I.length ≤ c1) (h : laws_eqAccessS.f k E I = some r) :
 Calls Try.prog 79 #[.slice A0 E.length c0, .slice A1 I.length c1] w fun e w' => e = .returned (.bool r) ∧ Below w.heap.size w w' := by
 have C1 := Try.underlying76
 have X0 := zK S0
 have F1 := zK T0
 clear S0 T0
 have a1 := zK U0
 have G1 := zK V0
 clear U0 V0
 have HB := zK (Below.refl w.heap.size w)
 have H : (if (E.length : Int) = (I.length : Int) then (laws_eqAccessS.l0 k E I 0) else (some false)) = some r := h
 clear h
 by_cases c3 : (E.length : Int) = (I.length : Int)
 rotate_left
 · rw [if_neg c3] at H
   have J0 := beq_eq_false_iff_ne.mpr c3
   have L0 := bne_iff_ne.mpr c3
   have M0 : (E.length == I.length) = false := by first | simpa using c3 | (simp at c3 ⊢; omega)
   obtain rfl := z5 H
   go_enter Try.func79, Try.ntmps79
   go_wp2
   go_ret
   exact ⟨zE, zB⟩
 rw [if_pos c3] at H
 have J0 := beq_iff_eq.mpr c3
 have L0 := bne_eq_false_iff_eq.mpr c3
 have M0 : (E.length == I.length) = true := by first | simpa using c3 | (simp at c3 ⊢; omega)
 clear c3
 have H' := zK H
 clear H
 go_enter Try.func79, Try.ntmps79
 go_wp2
 go_loopg [5] k (fun kq v5 w' => ∃ (l : Int), v5 = .int .i64 l ∧ Aside0 (laws_eqAccessS.l0 kq E I l = some r) ∧ Aside0 (kq ≤ k) ∧ Aside0 (Below w.heap.size w w'))
 case atStart => exact ⟨(0), zR, H', ⟨Nat.le_refl _⟩, ⟨zB⟩⟩
 clear H'
 try clear c1
 try clear p2
 try clear c3
 try clear J0
 try clear L0
 try clear M0
 obtain ⟨l, rfl, HA, b1, HB⟩ := hrel
 rcases gk with _ | k1
 · exact absurd HA.out (by simp [laws_eqAccessS.l0])
 have H := HA.out
 clear HA
 simp only [laws_eqAccessS.l0] at H
 by_cases c4 : l < (E.length : Int)
 rotate_left
 · rw [if_neg c4] at H
   have g1 := z2 c4
   clear c4
   obtain rfl := z5 H
   go_wp2
   go_ret
   exact ⟨zE, zB⟩
 rw [if_pos c4] at H
 have g1 := z1 c4
 clear c4
 by_cases c5 : 0 ≤ l
 rotate_left
 · rw [if_neg c5] at H
   exact absurd H (by simp)
 rw [if_pos c5] at H
 have D1 := z1 c5
 clear c5
 by_cases c6 : l < (I.length : Int)
 rotate_left
 · rw [if_neg c6] at H
   exact absurd H (by simp)
 rw [if_pos c6] at H
 have E1 := z1 c6
 clear c6
 replace H := z6 H
 obtain ⟨i1, d1, H⟩ := H
 have A7 := zK d1
 clear d1
 by_cases c8 : i1 = true
 rotate_left
 · replace c8 := Bool.eq_false_iff.mpr c8
   subst c8
   rw [if_neg (show ¬ (false = true) by decide)] at H
   obtain rfl := z5 H
   try go_wp2
   have E0 := zK (ze HB.out)
   revert E0
   clear HB
   intro HB
   have q0 : 0 ≤ (l : Int) := z3
   have t0 : l < (E.length : Int) := z3
   obtain ⟨J, m0, n0, F0, q, u, y, M, O⟩ := at_T76 X0.out l q0 t0
   have T := y
   have U := u
   have X := q
   cases F0
   (try replace q := zX HB q)
   (try replace u := zX HB u)
   (try replace y := zX HB y)
   have a0 := zK O
   have B0 := zK M
   clear O M
   replace q0 := eq_true q0
   replace t0 := eq_true t0
   have x0 : 0 ≤ (l : Int) := z3
   have y0 : l < (I.length : Int) := z3
   obtain ⟨L, o0, p0, G0, z, A, B, b0, d0⟩ := at_T76 a1.out l x0 y0
   have e0 := B
   have g0 := A
   have i0 := z
   cases G0
   (try replace z := zX HB z)
   (try replace A := zX HB A)
   (try replace B := zX HB B)
   have j0 := zK d0
   have C0 := zK b0
   clear d0 b0
   replace x0 := eq_true x0
   replace y0 := eq_true y0
   refine start_ (n := 10) (S := fun w' => w'.cell? (J.add ((l).toNat * 3)) = some (.int .i64 ((rd_T76 E l).f0)) ∧ w'.cell? ⟨(J.add ((l).toNat * 3)).block, (J.add ((l).toNat * 3)).off + 1, none⟩ = some (.int .i64 ((rd_T76 E l).f1)) ∧ w'.cell? ⟨(J.add ((l).toNat * 3)).block, (J.add ((l).toNat * 3)).off + 2, none⟩ = some (.slice m0 ((rd_T76 E l).f2).length n0) ∧ w'.cell? (L.add ((l).toNat * 3)) = some (.int .i64 ((rd_T76 I l).f0)) ∧ w'.cell? ⟨(L.add ((l).toNat * 3)).block, (L.add ((l).toNat * 3)).off + 1, none⟩ = some (.int .i64 ((rd_T76 I l).f1)) ∧ w'.cell? ⟨(L.add ((l).toNat * 3)).block, (L.add ((l).toNat * 3)).off + 2, none⟩ = some (.slice o0 ((rd_T76 I l).f2).length p0)) (ds := []) (bl 10 0) (by kernel_rfl) rfl (by kernel_rfl) ⟨(zX HB X:), (zX HB U:), (zX HB T:), (zX HB i0:), (zX HB g0:), (zX HB e0:)⟩ (fun hHeld => ?_); refine with_tabW laws_eqAccessS.tab6 laws_eqAccessS.bits6 (fun HT_ HW_ => ?_)
   generalize wr.drew = I1 at HB a0 j0 q u y z A B hHeld ⊢
   refine zP 0 17 (bl 10 1) HT_ ?_
   refine zP 1 18 (bl 10 3) HT_ ?_
   refine zP 2 19 (bl 10 7) HT_ ?_
   refine zP 4 21 (bl 10 23) HT_ ?_
   refine zP 5 22 (bl 10 55) HT_ ?_
   refine zP 6 23 (bl 10 119) HT_ ?_
   refine zT 3 20 (bl 10 127) rfl rfl HT_ HW_ hHeld (by rintro w' ⟨s0, s1, s2, s3, s4, s5⟩; go_simp; with_reducible rfl) ?_
   refine zT 7 24 (bl 10 255) rfl rfl HT_ HW_ hHeld (by rintro w' ⟨s0, s1, s2, s3, s4, s5⟩; go_simp; with_reducible rfl) ?_
   refine one_ (i := 8) (N := some 25) (bl 10 511) rfl rfl (one_of HT_.out (by kernel_rfl)) (by decide) (fun K hK => ?_)
   refine goes_ Try.func80 (by kernel_rfl) rfl #[.agg #[.int .i64 ((rd_T76 E l).f0), .int .i64 ((rd_T76 E l).f1), .slice m0 ((rd_T76 E l).f2).length n0], .agg #[.int .i64 ((rd_T76 I l).f0), .int .i64 ((rd_T76 I l).f1), .slice o0 ((rd_T76 I l).f2).length p0]] (by rfl) rfl rfl zL ?_
   refine (laws_eqAccess.calls k1 ((rd_T76 E l).f0) ((rd_T76 E l).f1) _ _ ((rd_T76 E l).f2) ((rd_T76 I l).f0) ((rd_T76 I l).f1) _ _ ((rd_T76 I l).f2) false _ (zS a0) B0.out (zS j0) C0.out A7.out).mono ?_
   rintro e J1 ⟨rfl, hb⟩
   refine ⟨_, rfl, ?_⟩
   have E0 := z8 hb
   revert E0
   clear HB
   intro HB
   (try clear hb)
   (try clear hb2)
   (try clear hk)
   (try clear hi)
   refine hK.out _ _ ⟨(zX HB X:), (zX HB U:), (zX HB T:), (zX HB i0:), (zX HB g0:), (zX HB e0:)⟩ (fun hHeld => ?_)
   clear hK K
   refine zU 25 ?_
   refine zP 9 26 (bl 10 1023) HT_ ?_
   refine done_ (done_of HT_.out (by kernel_rfl)) ?_
   try go_wp2
   go_ret
   exact ⟨zE, zB⟩
 subst c8
 rw [if_pos rfl] at H
 have H' := zK H
 clear H
 try go_wp2
 have E0 := zK (ze HB.out)
 revert E0
 clear HB
 intro HB
 have q0 : 0 ≤ (l : Int) := z3
 have t0 : l < (E.length : Int) := z3
 obtain ⟨J, m0, n0, F0, q, u, y, M, O⟩ := at_T76 X0.out l q0 t0
 have T := y
 have U := u
 have X := q
 cases F0
 (try replace q := zX HB q)
 (try replace u := zX HB u)
 (try replace y := zX HB y)
 have a0 := zK O
 have B0 := zK M
 clear O M
 replace q0 := eq_true q0
 replace t0 := eq_true t0
 have x0 : 0 ≤ (l : Int) := z3
 have y0 : l < (I.length : Int) := z3
 obtain ⟨L, o0, p0, G0, z, A, B, b0, d0⟩ := at_T76 a1.out l x0 y0
 have e0 := B
 have g0 := A
 have i0 := z
 cases G0
 (try replace z := zX HB z)
 (try replace A := zX HB A)
 (try replace B := zX HB B)
 have j0 := zK d0
 have C0 := zK b0
 clear d0 b0
 replace x0 := eq_true x0
 replace y0 := eq_true y0
 refine start_ (n := 10) (S := fun w' => w'.cell? (J.add ((l).toNat * 3)) = some (.int .i64 ((rd_T76 E l).f0)) ∧ w'.cell? ⟨(J.add ((l).toNat * 3)).block, (J.add ((l).toNat * 3)).off + 1, none⟩ = some (.int .i64 ((rd_T76 E l).f1)) ∧ w'.cell? ⟨(J.add ((l).toNat * 3)).block, (J.add ((l).toNat * 3)).off + 2, none⟩ = some (.slice m0 ((rd_T76 E l).f2).length n0) ∧ w'.cell? (L.add ((l).toNat * 3)) = some (.int .i64 ((rd_T76 I l).f0)) ∧ w'.cell? ⟨(L.add ((l).toNat * 3)).block, (L.add ((l).toNat * 3)).off + 1, none⟩ = some (.int .i64 ((rd_T76 I l).f1)) ∧ w'.cell? ⟨(L.add ((l).toNat * 3)).block, (L.add ((l).toNat * 3)).off + 2, none⟩ = some (.slice o0 ((rd_T76 I l).f2).length p0)) (ds := []) (bl 10 0) (by kernel_rfl) rfl (by kernel_rfl) ⟨(zX HB X:), (zX HB U:), (zX HB T:), (zX HB i0:), (zX HB g0:), (zX HB e0:)⟩ (fun hHeld => ?_); refine with_tabW laws_eqAccessS.tab6 laws_eqAccessS.bits6 (fun HT_ HW_ => ?_)
 generalize wr.drew = w9 at HB a0 j0 q u y z A B hHeld ⊢
 refine zP 0 17 (bl 10 1) HT_ ?_
 refine zP 1 18 (bl 10 3) HT_ ?_
 refine zP 2 19 (bl 10 7) HT_ ?_
 refine zP 4 21 (bl 10 23) HT_ ?_
 refine zP 5 22 (bl 10 55) HT_ ?_
 refine zP 6 23 (bl 10 119) HT_ ?_
 refine zT 3 20 (bl 10 127) rfl rfl HT_ HW_ hHeld (by rintro w' ⟨s0, s1, s2, s3, s4, s5⟩; go_simp; with_reducible rfl) ?_
 refine zT 7 24 (bl 10 255) rfl rfl HT_ HW_ hHeld (by rintro w' ⟨s0, s1, s2, s3, s4, s5⟩; go_simp; with_reducible rfl) ?_
 refine one_ (i := 8) (N := some 25) (bl 10 511) rfl rfl (one_of HT_.out (by kernel_rfl)) (by decide) (fun K hK => ?_)
 refine goes_ Try.func80 (by kernel_rfl) rfl #[.agg #[.int .i64 ((rd_T76 E l).f0), .int .i64 ((rd_T76 E l).f1), .slice m0 ((rd_T76 E l).f2).length n0], .agg #[.int .i64 ((rd_T76 I l).f0), .int .i64 ((rd_T76 I l).f1), .slice o0 ((rd_T76 I l).f2).length p0]] (by rfl) rfl rfl zL ?_
 refine (laws_eqAccess.calls k1 ((rd_T76 E l).f0) ((rd_T76 E l).f1) _ _ ((rd_T76 E l).f2) ((rd_T76 I l).f0) ((rd_T76 I l).f1) _ _ ((rd_T76 I l).f2) true _ (zS a0) B0.out (zS j0) C0.out A7.out).mono ?_
 rintro e L1 ⟨rfl, hb⟩
 refine ⟨_, rfl, ?_⟩
 have E0 := z8 hb
 revert E0
 clear HB
 intro HB
 (try clear hb)
 (try clear hb2)
 (try clear hk)
 (try clear hi)
 refine hK.out _ _ ⟨(zX HB X:), (zX HB U:), (zX HB T:), (zX HB i0:), (zX HB g0:), (zX HB e0:)⟩ (fun hHeld => ?_)
 clear hK K
 refine zU 25 ?_
 refine zP 9 26 (bl 10 1023) HT_ ?_
 refine done_ (done_of HT_.out (by kernel_rfl)) ?_
 try go_wp2
 go_roundg k1
 case measure => have := b1.out; omega
 case rel => exact ⟨(wrap64 (l + 1)), zR, H', ⟨by have := b1.out; omega⟩, ⟨zB⟩⟩
end Go.Proofs.Ytmcboiffbcnalaa.PFnExactLives
