-- Printed out of the translation by this session's own turned copy of a printer; Lean checks it.
import Derived.Test.YtmcboiffbcnalaaPFnExactPlanOkx0
namespace Go.Proofs.Ytmcboiffbcnalaa.PFnExactPlanOk
open Go.RowKit Go.Proofs.YtmcboiffbcnalaaW.PrintWords Go.Proofs.YtmcboiffbcnalaaW.PrintLast Go.Proofs.YtmcboiffbcnalaaW.PrintMore
attribute [local go_sem] max2_int min2_int max_two min_two max_three min_three max_four min_four
set_option linter.unusedVariables false
set_option linter.unusedSimpArgs false
set_option maxHeartbeats 8000000
set_option maxRecDepth 100000
def laws_eqIntS.l0 : Nat → List Int → List Int → Int → Option (Bool)
 | 0, _, _, _ => none
 | k + 1, l, q, a => if a < (l.length : Int) then (if 0 ≤ a then (if a < (q.length : Int) then (if (rd l a) = (rd q a) then (laws_eqIntS.l0 k l q (wrap64 (a + 1))) else (some false)) else (none)) else (none)) else (some true)
def laws_eqIntS.f (k : Nat) (a : List Int) (l : List Int) : Option (Bool) := if (a.length : Int) = (l.length : Int) then (laws_eqIntS.l0 k a l 0) else (some false)
theorem laws_eqIntS.calls (k) (A0) (c0) (l : List Int) (A1) (c1) (q : List Int) (r : Bool) (w) (d0 : Kd.C (Kd.int .i64) w A0 l.length l) (e0 : l.length ≤ c0) (f0 : Kd.C (Kd.int .i64) w A1 q.length q) (g0 : q.length ≤ c1) (h : laws_eqIntS.f k l q = some r) :
 Calls Try.prog 27 #[.slice A0 l.length c0, .slice A1 q.length c1] w fun e w' => e = .returned (.bool r) ∧ Drawn0 w w' := by
 have i0 := zK d0
 have C0 := zK e0
 clear d0 e0
 have j0 := zK f0
 have D0 := zK g0
 clear f0 g0
 have H : (if (l.length : Int) = (q.length : Int) then (laws_eqIntS.l0 k l q 0) else (some false)) = some r := h
 clear h
 by_cases A : (l.length : Int) = (q.length : Int)
 rotate_left
 · rw [if_neg A] at H
   have M := beq_eq_false_iff_ne.mpr A
   have O := bne_iff_ne.mpr A
   have T : (l.length == q.length) = false := by first | simpa using A | (simp at A ⊢; omega)
   obtain rfl := z5 H
   go_enter Try.func27, Try.ntmps27
   go_wp2
   repeat (go_quiet (fail); try go_wp2)
   go_ret
   exact ⟨zR, zD⟩
 rw [if_pos A] at H
 have M := beq_iff_eq.mpr A
 have O := bne_eq_false_iff_eq.mpr A
 have T : (l.length == q.length) = true := by first | simpa using A | (simp at A ⊢; omega)
 clear A
 have H' := zK H
 clear H
 go_enter Try.func27, Try.ntmps27
 go_wp2
 repeat (go_quiet (fail); try go_wp2)
 go_loopg [5] k (fun kq v5 w' => ∃ (a : Int), v5 = .int .i64 a ∧ Aside0 (laws_eqIntS.l0 kq l q a = some r) ∧ Aside0 (kq ≤ k) ∧ Drawn0 w w')
 case atStart => exact ⟨(0), zR, H', ⟨Nat.le_refl _⟩, zD⟩
 clear H'
 try clear c1
 try clear c2
 try clear p2
 try clear A
 try clear M
 try clear O
 try clear T
 obtain ⟨a, rfl, HA, m0, ⟨m1, rfl⟩⟩ := hrel
 rcases gk with _ | k1
 · exact absurd HA.out (by simp [laws_eqIntS.l0])
 have H := HA.out
 clear HA
 simp only [laws_eqIntS.l0] at H
 by_cases I : a < (l.length : Int)
 rotate_left
 · rw [if_neg I] at H
   have o0 := z2 I
   clear I
   obtain rfl := z5 H
   go_wp2
   repeat (go_quiet (fail); try go_wp2)
   go_ret
   exact ⟨zR, zD⟩
 rw [if_pos I] at H
 have o0 := z1 I
 clear I
 by_cases U : 0 ≤ a
 rotate_left
 · rw [if_neg U] at H
   exact absurd H (by simp)
 rw [if_pos U] at H
 have y0 := z1 U
 clear U
 by_cases X : a < (q.length : Int)
 rotate_left
 · rw [if_neg X] at H
   exact absurd H (by simp)
 rw [if_pos X] at H
 have B0 := z1 X
 clear X
 by_cases B : (rd l a) = (rd q a)
 rotate_left
 · rw [if_neg B] at H
   have p0 := beq_eq_false_iff_ne.mpr B
   have q0 := bne_iff_ne.mpr B
   obtain rfl := z5 H
   have u : 0 ≤ (a : Int) := z3
   have x : a < (l.length : Int) := z3
   obtain ⟨a0, D, J⟩ := Kd.at_int i0.out a u x
   cases D
   replace u := eq_true u
   replace x := eq_true x
   have y : 0 ≤ (a : Int) := z3
   have z : a < (q.length : Int) := z3
   obtain ⟨b0, E, L⟩ := Kd.at_int j0.out a y z
   cases E
   replace y := eq_true y
   replace z := eq_true z
   go_wp2
   repeat (go_quiet (fail); try go_wp2)
   go_ret
   exact ⟨zR, zD⟩
 rw [if_pos B] at H
 have p0 := beq_iff_eq.mpr B
 have q0 := bne_eq_false_iff_eq.mpr B
 clear B
 have H' := zK H
 clear H
 have u : 0 ≤ (a : Int) := z3
 have x : a < (l.length : Int) := z3
 obtain ⟨a0, D, J⟩ := Kd.at_int i0.out a u x
 cases D
 replace u := eq_true u
 replace x := eq_true x
 have y : 0 ≤ (a : Int) := z3
 have z : a < (q.length : Int) := z3
 obtain ⟨b0, E, L⟩ := Kd.at_int j0.out a y z
 cases E
 replace y := eq_true y
 replace z := eq_true z
 go_wp2
 repeat (go_quiet (fail); try go_wp2)
 go_roundg k1
 case measure => have := m0.out; omega
 case rel => exact ⟨(wrap64 (a + 1)), zR, H', ⟨by have := m0.out; omega⟩, zD⟩
def laws_eqFix.f (k : Nat) (a : Int) (l : List Int) (q : Int) (u : List Int) : Option (Bool) := if a = q then ((laws_eqIntS.f k l u).bind fun x => (if x = true then (some true) else (some false))) else (some false)
theorem laws_eqFix.calls (k) (u) (y) (z) (a : List Int) (x) (A) (B) (l : List Int) (r : Bool) (w) (L : Kd.C (Kd.int .i64) w y a.length a) (M : a.length ≤ z) (O : Kd.C (Kd.int .i64) w A l.length l) (T : l.length ≤ B) (h : laws_eqFix.f k u a x l = some r) :
 Calls Try.prog 57 #[.agg #[.int .i64 u, .slice y a.length z], .agg #[.int .i64 x, .slice A l.length B]] w fun e w' => e = .returned (.bool r) ∧ Below w.heap.size w w' := by
 have N0 := Try.underlying71
 have c0 := zK L
 have d0 := zK M
 clear L M
 have e0 := zK O
 have f0 := zK T
 clear O T
 have HB := zK (Below.refl w.heap.size w)
 have H : (if u = x then ((laws_eqIntS.f k a l).bind fun J => (if J = true then (some true) else (some false))) else (some false)) = some r := h
 clear h
 rcases zN (u = x) with D | D
 rw [if_neg D] at H
 have l0 := beq_eq_false_iff_ne.mpr D
 have m0 := bne_iff_ne.mpr D
 obtain rfl := z5 H
 rotate_left
 rw [if_pos D] at H
 have l0 := beq_iff_eq.mpr D
 have m0 := bne_eq_false_iff_eq.mpr D
 clear D
 replace H := z6 H
 obtain ⟨J, j0, H⟩ := H
 have A4 := zK j0
 clear j0
 by_cases c5 : J = true
 subst c5
 rw [if_pos rfl] at H
 obtain rfl := z5 H
 rotate_left
 replace c5 := Bool.eq_false_iff.mpr c5
 subst c5
 rw [if_neg (show ¬ (false = true) by decide)] at H
 obtain rfl := z5 H
 all_goals go_enter Try.func57, Try.ntmps57
 all_goals go_wp2_with (first | ((with_reducible refine gd 2 rfl ?_); refine zJ 2 #[.int .i64 u, .slice y a.length z] 71 ?_; intro D0 hg R0 hbox hb; have U := z8 hb; have X := zK (hbox); have a0 := z9 hg; have b0 := z9 hg; revert U X a0 b0; clear HB; intro HB q E0 F0; clear hb hbox hg) | ((with_reducible refine gd 3 rfl ?_); refine zJ 3 #[.int .i64 x, .slice A l.length B] 71 ?_; intro G0 hg S0 hbox hb; have U := z7 q hb; have X := z8 hb; have a0 := zK (hbox); have b0 := z9 hg; have A0 := z9 hg; have B0 := zHH hg q; have C0 := zGG hg q; revert U X a0 b0 A0 B0 C0; clear q HB; intro q HB i0 I0 J0 E I; clear hb hbox hg; have L0 := E.out; have M0 := I.out; obtain ⟨n0, o0, p0, q0⟩ := zc2 q; obtain ⟨s0, t0, x0, y0⟩ := zc2 i0) | ((with_reducible refine gc 27 rfl ?_); refine zF 14 Try.func27 #[.slice y a.length z, .slice A l.length B] rfl zL ?_; refine (laws_eqIntS.calls k _ _ a _ _ l _ _ (zS c0) d0.out (zS e0) f0.out A4.out).mono ?_; rintro e w' ⟨rfl, ⟨nd, rfl⟩⟩; refine ⟨_, rfl, ?_⟩))
 all_goals go_ret
 all_goals exact ⟨zE, zB⟩
def laws_eqFixS.l0 : Nat → List (S71) → List (S71) → Int → Option (Bool)
 | 0, _, _, _ => none
 | k + 1, l, q, a => if a < (l.length : Int) then (if 0 ≤ a then (if a < (q.length : Int) then ((laws_eqFix.f k ((rd_T71 l a).f0) ((rd_T71 l a).f1) ((rd_T71 q a).f0) ((rd_T71 q a).f1)).bind fun u => (if u = true then (laws_eqFixS.l0 k l q (wrap64 (a + 1))) else (some false))) else (none)) else (none)) else (some true)
def laws_eqFixS.f (k : Nat) (a : List (S71)) (l : List (S71)) : Option (Bool) := if (a.length : Int) = (l.length : Int) then (laws_eqFixS.l0 k a l 0) else (some false)
def laws_eqFixS.T6 : Bool × List (List Nat × List Nat) := (true, [([], []), ([], []), ([0, 1], [0, 1]), ([2], [2]), ([], []), ([], []), ([4, 5], [4, 5]), ([6], [6]), ([3, 7], [3, 7]), ([8], [8])])
def laws_eqFixS.B6 : List Nat := [0, 0, 3, 7, 0, 0, 48, 112, 255, 511]
theorem laws_eqFixS.tab6 : rtab .any (opsOf Try.f33 6) = laws_eqFixS.T6 := by kernel_rfl
theorem laws_eqFixS.bits6 : waitsOk laws_eqFixS.T6.2 laws_eqFixS.B6 = true := by kernel_rfl
theorem laws_eqFixS.calls (k) (A0) (c0) (y : List (S71)) (A1) (c1) (z : List (S71)) (r : Bool) (w) (I0 : Kd.C k71 w A0 y.length y) (J0 : y.length ≤ c0) (L0 : Kd.C k71 w A1 z.length z) (M0 : z.length ≤ c1) (h : laws_eqFixS.f k y z = some r) :
 Calls Try.prog 33 #[.slice A0 y.length c0, .slice A1 z.length c1] w fun e w' => e = .returned (.bool r) ∧ Below w.heap.size w w' := by
 have m1 := Try.underlying71
 have N0 := zK I0
 have p1 := zK J0
 clear I0 J0
 have O0 := zK L0
 have q1 := zK M0
 clear L0 M0
 have HB := zK (Below.refl w.heap.size w)
 have H : (if (y.length : Int) = (z.length : Int) then (laws_eqFixS.l0 k y z 0) else (some false)) = some r := h
 clear h
 by_cases c3 : (y.length : Int) = (z.length : Int)
 rotate_left
 · rw [if_neg c3] at H
   have B0 := beq_eq_false_iff_ne.mpr c3
   have C0 := bne_iff_ne.mpr c3
   have D0 : (y.length == z.length) = false := by first | simpa using c3 | (simp at c3 ⊢; omega)
   obtain rfl := z5 H
   go_enter Try.func33, Try.ntmps33
   go_wp2
   go_ret
   exact ⟨zE, zB⟩
 rw [if_pos c3] at H
 have B0 := beq_iff_eq.mpr c3
 have C0 := bne_eq_false_iff_eq.mpr c3
 have D0 : (y.length == z.length) = true := by first | simpa using c3 | (simp at c3 ⊢; omega)
 clear c3
 have H' := zK H
 clear H
 go_enter Try.func33, Try.ntmps33
 go_wp2
 go_loopg [5] k (fun kq v5 w' => ∃ (a : Int), v5 = .int .i64 a ∧ Aside0 (laws_eqFixS.l0 kq y z a = some r) ∧ Aside0 (kq ≤ k) ∧ Aside0 (Below w.heap.size w w'))
 case atStart => exact ⟨(0), zR, H', ⟨Nat.le_refl _⟩, ⟨zB⟩⟩
 clear H'
 try clear c1
 try clear p2
 try clear c3
 try clear B0
 try clear C0
 try clear D0
 obtain ⟨a, rfl, HA, R0, HB⟩ := hrel
 rcases gk with _ | k1
 · exact absurd HA.out (by simp [laws_eqFixS.l0])
 have H := HA.out
 clear HA
 simp only [laws_eqFixS.l0] at H
 by_cases c4 : a < (y.length : Int)
 rotate_left
 · rw [if_neg c4] at H
   have U0 := z2 c4
   clear c4
   obtain rfl := z5 H
   go_wp2
   go_ret
   exact ⟨zE, zB⟩
 rw [if_pos c4] at H
 have U0 := z1 c4
 clear c4
 by_cases c5 : 0 ≤ a
 rotate_left
 · rw [if_neg c5] at H
   exact absurd H (by simp)
 rw [if_pos c5] at H
 have n1 := z1 c5
 clear c5
 by_cases c6 : a < (z.length : Int)
 rotate_left
 · rw [if_neg c6] at H
   exact absurd H (by simp)
 rw [if_pos c6] at H
 have o1 := z1 c6
 clear c6
 replace H := z6 H
 obtain ⟨V0, S0, H⟩ := H
 have A7 := zK S0
 clear S0
 by_cases c8 : V0 = true
 rotate_left
 · replace c8 := Bool.eq_false_iff.mpr c8
   subst c8
   rw [if_neg (show ¬ (false = true) by decide)] at H
   obtain rfl := z5 H
   try go_wp2
   have q0 := zK (ze HB.out)
   revert q0
   clear HB
   intro HB
   have g0 : 0 ≤ (a : Int) := z3
   have i0 : a < (y.length : Int) := z3
   obtain ⟨U, a0, b0, t0, l, q, A, B⟩ := at_T71 N0.out a g0 i0
   have D := q
   have E := l
   cases t0
   (try replace l := zX HB l)
   (try replace q := zX HB q)
   have I := zK B
   have n0 := zK A
   clear B A
   replace g0 := eq_true g0
   replace i0 := eq_true i0
   have j0 : 0 ≤ (a : Int) := z3
   have m0 : a < (z.length : Int) := z3
   obtain ⟨X, d0, e0, x0, u, x, J, L⟩ := at_T71 O0.out a j0 m0
   have M := x
   have O := u
   cases x0
   (try replace u := zX HB u)
   (try replace x := zX HB x)
   have T := zK L
   have o0 := zK J
   clear L J
   replace j0 := eq_true j0
   replace m0 := eq_true m0
   refine start_ (n := 10) (S := fun w' => w'.cell? (U.add ((a).toNat * 2)) = some (.int .i64 ((rd_T71 y a).f0)) ∧ w'.cell? ⟨(U.add ((a).toNat * 2)).block, (U.add ((a).toNat * 2)).off + 1, none⟩ = some (.slice a0 ((rd_T71 y a).f1).length b0) ∧ w'.cell? (X.add ((a).toNat * 2)) = some (.int .i64 ((rd_T71 z a).f0)) ∧ w'.cell? ⟨(X.add ((a).toNat * 2)).block, (X.add ((a).toNat * 2)).off + 1, none⟩ = some (.slice d0 ((rd_T71 z a).f1).length e0)) (ds := []) (bl 10 0) (by kernel_rfl) rfl (by kernel_rfl) ⟨(zX HB E:), (zX HB D:), (zX HB O:), (zX HB M:)⟩ (fun hHeld => ?_); refine with_tabW laws_eqFixS.tab6 laws_eqFixS.bits6 (fun HT_ HW_ => ?_)
   generalize wr.drew = t1 at HB I T l q u x hHeld ⊢
   refine zP 0 17 (bl 10 1) HT_ ?_
   refine zP 1 18 (bl 10 3) HT_ ?_
   refine zP 2 19 (bl 10 7) HT_ ?_
   refine zP 4 21 (bl 10 23) HT_ ?_
   refine zP 5 22 (bl 10 55) HT_ ?_
   refine zP 6 23 (bl 10 119) HT_ ?_
   refine zT 3 20 (bl 10 127) rfl rfl HT_ HW_ hHeld (by rintro w' ⟨s0, s1, s2, s3⟩; go_simp; with_reducible rfl) ?_
   refine zT 7 24 (bl 10 255) rfl rfl HT_ HW_ hHeld (by rintro w' ⟨s0, s1, s2, s3⟩; go_simp; with_reducible rfl) ?_
   refine one_ (i := 8) (N := some 25) (bl 10 511) rfl rfl (one_of HT_.out (by kernel_rfl)) (by decide) (fun K hK => ?_)
   refine goes_ Try.func57 (by kernel_rfl) rfl #[.agg #[.int .i64 ((rd_T71 y a).f0), .slice a0 ((rd_T71 y a).f1).length b0], .agg #[.int .i64 ((rd_T71 z a).f0), .slice d0 ((rd_T71 z a).f1).length e0]] (by rfl) rfl rfl zL ?_
   refine (laws_eqFix.calls k1 ((rd_T71 y a).f0) _ _ ((rd_T71 y a).f1) ((rd_T71 z a).f0) _ _ ((rd_T71 z a).f1) false _ (zS I) n0.out (zS T) o0.out A7.out).mono ?_
   rintro e x1 ⟨rfl, hb⟩
   refine ⟨_, rfl, ?_⟩
   have q0 := z8 hb
   revert q0
   clear HB
   intro HB
   (try clear hb)
   (try clear hb2)
   (try clear hk)
   (try clear hi)
   refine hK.out _ _ ⟨(zX HB E:), (zX HB D:), (zX HB O:), (zX HB M:)⟩ (fun hHeld => ?_)
   clear hK K
   refine zU 25 ?_
   refine zP 9 26 (bl 10 1023) HT_ ?_
   refine done_ (done_of HT_.out (by kernel_rfl)) ?_
   try go_wp2
   go_ret
   exact ⟨zE, zB⟩
 subst c8
 rw [if_pos rfl] at H
 have H' := zK H
 clear H
 try go_wp2
 have q0 := zK (ze HB.out)
 revert q0
 clear HB
 intro HB
 have g0 : 0 ≤ (a : Int) := z3
 have i0 : a < (y.length : Int) := z3
 obtain ⟨U, a0, b0, t0, l, q, A, B⟩ := at_T71 N0.out a g0 i0
 have D := q
 have E := l
 cases t0
 (try replace l := zX HB l)
 (try replace q := zX HB q)
 have I := zK B
 have n0 := zK A
 clear B A
 replace g0 := eq_true g0
 replace i0 := eq_true i0
 have j0 : 0 ≤ (a : Int) := z3
 have m0 : a < (z.length : Int) := z3
 obtain ⟨X, d0, e0, x0, u, x, J, L⟩ := at_T71 O0.out a j0 m0
 have M := x
 have O := u
 cases x0
 (try replace u := zX HB u)
 (try replace x := zX HB x)
 have T := zK L
 have o0 := zK J
 clear L J
 replace j0 := eq_true j0
 replace m0 := eq_true m0
 refine start_ (n := 10) (S := fun w' => w'.cell? (U.add ((a).toNat * 2)) = some (.int .i64 ((rd_T71 y a).f0)) ∧ w'.cell? ⟨(U.add ((a).toNat * 2)).block, (U.add ((a).toNat * 2)).off + 1, none⟩ = some (.slice a0 ((rd_T71 y a).f1).length b0) ∧ w'.cell? (X.add ((a).toNat * 2)) = some (.int .i64 ((rd_T71 z a).f0)) ∧ w'.cell? ⟨(X.add ((a).toNat * 2)).block, (X.add ((a).toNat * 2)).off + 1, none⟩ = some (.slice d0 ((rd_T71 z a).f1).length e0)) (ds := []) (bl 10 0) (by kernel_rfl) rfl (by kernel_rfl) ⟨(zX HB E:), (zX HB D:), (zX HB O:), (zX HB M:)⟩ (fun hHeld => ?_); refine with_tabW laws_eqFixS.tab6 laws_eqFixS.bits6 (fun HT_ HW_ => ?_)
 generalize wr.drew = w9 at HB I T l q u x hHeld ⊢
 refine zP 0 17 (bl 10 1) HT_ ?_
 refine zP 1 18 (bl 10 3) HT_ ?_
 refine zP 2 19 (bl 10 7) HT_ ?_
 refine zP 4 21 (bl 10 23) HT_ ?_
 refine zP 5 22 (bl 10 55) HT_ ?_
 refine zP 6 23 (bl 10 119) HT_ ?_
 refine zT 3 20 (bl 10 127) rfl rfl HT_ HW_ hHeld (by rintro w' ⟨s0, s1, s2, s3⟩; go_simp; with_reducible rfl) ?_
 refine zT 7 24 (bl 10 255) rfl rfl HT_ HW_ hHeld (by rintro w' ⟨s0, s1, s2, s3⟩; go_simp; with_reducible rfl) ?_
 refine one_ (i := 8) (N := some 25) (bl 10 511) rfl rfl (one_of HT_.out (by kernel_rfl)) (by decide) (fun K hK => ?_)
 refine goes_ Try.func57 (by kernel_rfl) rfl #[.agg #[.int .i64 ((rd_T71 y a).f0), .slice a0 ((rd_T71 y a).f1).length b0], .agg #[.int .i64 ((rd_T71 z a).f0), .slice d0 ((rd_T71 z a).f1).length e0]] (by rfl) rfl rfl zL ?_
 refine (laws_eqFix.calls k1 ((rd_T71 y a).f0) _ _ ((rd_T71 y a).f1) ((rd_T71 z a).f0) _ _ ((rd_T71 z a).f1) true _ (zS I) n0.out (zS T) o0.out A7.out).mono ?_
 rintro e y1 ⟨rfl, hb⟩
 refine ⟨_, rfl, ?_⟩
 have q0 := z8 hb
 revert q0
 clear HB
 intro HB
 (try clear hb)
 (try clear hb2)
 (try clear hk)
 (try clear hi)
 refine hK.out _ _ ⟨(zX HB E:), (zX HB D:), (zX HB O:), (zX HB M:)⟩ (fun hHeld => ?_)
 clear hK K
 refine zU 25 ?_
 refine zP 9 26 (bl 10 1023) HT_ ?_
 refine done_ (done_of HT_.out (by kernel_rfl)) ?_
 try go_wp2
 go_roundg k1
 case measure => have := R0.out; omega
 case rel => exact ⟨(wrap64 (a + 1)), zR, H', ⟨by have := R0.out; omega⟩, ⟨zB⟩⟩
def laws_eqAccess.f (k : Nat) (a : Int) (l : Int) (q : List Int) (u : Int) (x : Int) (y : List Int) : Option (Bool) := if a = u then (if l = x then ((laws_eqIntS.f k q y).bind fun z => (if z = true then (some true) else (some false))) else (some false)) else (some false)
theorem laws_eqAccess.calls (k) (u) (x) (A) (B) (a : List Int) (y) (z) (D) (E) (l : List Int) (r : Bool) (w) (T : Kd.C (Kd.int .i64) w A a.length a) (U : a.length ≤ B) (X : Kd.C (Kd.int .i64) w D l.length l) (a0 : l.length ≤ E) (h : laws_eqAccess.f k u x a y z l = some r) :
 Calls Try.prog 80 #[.agg #[.int .i64 u, .int .i64 x, .slice A a.length B], .agg #[.int .i64 y, .int .i64 z, .slice D l.length E]] w fun e w' => e = .returned (.bool r) ∧ Below w.heap.size w w' := by
 have b1 := Try.underlying76
 have f0 := zK T
 have g0 := zK U
 clear T U
 have i0 := zK X
 have j0 := zK a0
 clear X a0
 have HB := zK (Below.refl w.heap.size w)
 have H : (if u = y then (if x = z then ((laws_eqIntS.f k a l).bind fun O => (if O = true then (some true) else (some false))) else (some false)) else (some false)) = some r := h
 clear h
 rcases zN (u = y) with I | I
 rw [if_neg I] at H
 have o0 := beq_eq_false_iff_ne.mpr I
 have p0 := bne_iff_ne.mpr I
 obtain rfl := z5 H
 rotate_left
 rw [if_pos I] at H
 have o0 := beq_iff_eq.mpr I
 have p0 := bne_eq_false_iff_eq.mpr I
 clear I
 rcases zN (x = z) with J | J
 rw [if_neg J] at H
 have q0 := beq_eq_false_iff_ne.mpr J
 have s0 := bne_iff_ne.mpr J
 obtain rfl := z5 H
 rotate_left
 rw [if_pos J] at H
 have q0 := beq_iff_eq.mpr J
 have s0 := bne_eq_false_iff_eq.mpr J
 clear J
 replace H := z6 H
 obtain ⟨O, n0, H⟩ := H
 have A5 := zK n0
 clear n0
 by_cases c6 : O = true
 subst c6
 rw [if_pos rfl] at H
 obtain rfl := z5 H
 rotate_left
 replace c6 := Bool.eq_false_iff.mpr c6
 subst c6
 rw [if_neg (show ¬ (false = true) by decide)] at H
 obtain rfl := z5 H
 all_goals go_enter Try.func80, Try.ntmps80
 all_goals go_wp2_with (first | ((with_reducible refine gd 2 rfl ?_); refine zJ 2 #[.int .i64 u, .int .i64 x, .slice A a.length B] 76 ?_; intro O0 hg d1 hbox hb; have b0 := z8 hb; have c0 := zK (hbox); have d0 := z9 hg; have e0 := z9 hg; revert b0 c0 d0 e0; clear HB; intro HB q R0 S0; clear hb hbox hg) | ((with_reducible refine gd 3 rfl ?_); refine zJ 3 #[.int .i64 y, .int .i64 z, .slice D l.length E] 76 ?_; intro T0 hg e1 hbox hb; have b0 := z7 q hb; have c0 := z8 hb; have d0 := zK (hbox); have e0 := z9 hg; have L0 := z9 hg; have M0 := zHH hg q; have N0 := zGG hg q; revert b0 c0 d0 e0 L0 M0 N0; clear q HB; intro q HB m0 U0 V0 L M; clear hb hbox hg; have X0 := L.out; have a1 := M.out; obtain ⟨t0, x0, y0, A0, B0, C0⟩ := zc3 q; obtain ⟨D0, E0, F0, G0, I0, J0⟩ := zc3 m0) | ((with_reducible refine gc 27 rfl ?_); refine zF 19 Try.func27 #[.slice A a.length B, .slice D l.length E] rfl zL ?_; refine (laws_eqIntS.calls k _ _ a _ _ l _ _ (zS f0) g0.out (zS i0) j0.out A5.out).mono ?_; rintro e w' ⟨rfl, ⟨nd, rfl⟩⟩; refine ⟨_, rfl, ?_⟩))
 all_goals go_ret
 all_goals exact ⟨zE, zB⟩
end Go.Proofs.Ytmcboiffbcnalaa.PFnExactPlanOk
