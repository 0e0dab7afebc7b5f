-- Printed out of the translation by this session's own turned copy of a printer; Lean checks it.
import Derived.Test.YtmcboiffbcnalaaPFnExactLivesx0
import Derived.Test.YtmcboiffbcnalaaPFnExactLivesx16
import Derived.Test.YtmcboiffbcnalaaPFnExactLivesx18
namespace Go.Proofs.Ytmcboiffbcnalaa.PFnExactLives
open Go.RowKit Go.Proofs.YtmcboiffbcnalaaW.PrintWords Go.Proofs.YtmcboiffbcnalaaW.PrintLast Go.Proofs.YtmcboiffbcnalaaW.PrintMore
attribute [local go_sem] max2_int min2_int max_two min_two max_three min_three max_four min_four
set_option linter.unusedVariables false
set_option linter.unusedSimpArgs false
set_option maxHeartbeats 8000000
set_option maxRecDepth 100000
def impl_Lives.f (k : Nat) (l : List Int) (q : List Int) (u : List (S71)) (y : List (S79)) (z : List Int) : Option ((List (S52))) := (impl_NestOk.f k l q u y z).bind fun A => (if A = true then ((impl_Nest_lives.f k l q u y z).bind fun B => (some B)) else (some ([] : List (S52))))
theorem impl_Lives.calls (k) (B) (E) (l : List Int) (I) (J) (q : List Int) (L) (M) (u : List (S71)) (O) (T) (y : List (S79)) (U) (X) (z : List Int) (r : List (S52)) (w) (e0 : Kd.C (Kd.int .i64) w B l.length l) (f0 : l.length ≤ E) (g0 : Kd.C (Kd.int .i64) w I q.length q) (i0 : q.length ≤ J) (j0 : Kd.C k71 w L u.length u) (l0 : u.length ≤ M) (m0 : Kd.C k79 w O y.length y) (n0 : y.length ≤ T) (o0 : Kd.C (Kd.int .i64) w U z.length z) (p0 : z.length ≤ X) (h : impl_Lives.f k l q u y z = some r) :
 Calls Try.prog 13 #[.agg #[.slice B l.length E, .slice I q.length J, .slice L u.length M, .slice O y.length T, .slice U z.length X]] w fun e w' => ∃ v0_ : Value, e = .returned (v0_) ∧ Kd.R k52 52 w' w.heap.size (fun _ => True) v0_ r ∧ Below w.heap.size w w' := by
 have t1 := Try.underlying34
 have q0 := zK e0
 have s0 := zK f0
 clear e0 f0
 have t0 := zK g0
 have x0 := zK i0
 clear g0 i0
 have y0 := zK j0
 have A0 := zK l0
 clear j0 l0
 have B0 := zK m0
 have C0 := zK n0
 clear m0 n0
 have D0 := zK o0
 have E0 := zK p0
 clear o0 p0
 have HB := zK (Below.refl w.heap.size w)
 have H : ((impl_NestOk.f k l q u y z).bind fun c0 => (if c0 = true then ((impl_Nest_lives.f k l q u y z).bind fun d0 => (some d0)) else (some ([] : List (S52))))) = some r := h
 clear h
 replace H := z6 H
 obtain ⟨c0, J0, H⟩ := H
 have A2 := zK J0
 clear J0
 rcases zN (c0 = true) with c3 | c3
 replace c3 := Bool.eq_false_iff.mpr c3
 subst c3
 rw [if_neg (show ¬ (false = true) by decide)] at H
 obtain rfl := z5 H
 rotate_left
 subst c3
 rw [if_pos rfl] at H
 replace H := z6 H
 obtain ⟨d0, L0, H⟩ := H
 have A4 := zK L0
 clear L0
 obtain rfl := z5 H
 all_goals go_enter Try.func13, Try.ntmps13
 all_goals go_wp2_with (first | ((with_reducible refine gd 1 rfl ?_); refine zJ 1 #[.slice B l.length E, .slice I q.length J, .slice L u.length M, .slice O y.length T, .slice U z.length X] 34 ?_; intro p1 hg w5 hbox hb; have a0 := z8 hb; have b0 := zK (hbox); have G0 := z9 hg; have M0 := z9 hg; revert a0 b0 G0 M0; clear HB; intro HB A q1 s1; clear hb hbox hg; obtain ⟨N0, O0, R0, S0, T0, U0, V0, X0, a1, b1⟩ := zc5 A) | ((with_reducible refine gc 24 rfl ?_); refine zF 4 Try.func24 #[.agg #[.slice B l.length E, .slice I q.length J, .slice L u.length M, .slice O y.length T, .slice U z.length X]] rfl zL ?_; refine (impl_NestOk.calls k _ _ l _ _ q _ _ u _ _ y _ _ z _ _ (zS q0) s0.out (zS t0) x0.out (zS y0) A0.out (zS B0) C0.out (zS D0) E0.out A2.out).mono ?_; rintro e w7 ⟨rfl, hb⟩; refine ⟨_, rfl, ?_⟩; have a0 := z7 A hb; have b0 := z8 hb; revert a0 b0; clear A HB; intro A HB; obtain ⟨c1, d1, e1, f1, g1, i1, j1, l1, m1, n1⟩ := zc5 A) | ((with_reducible refine gc 25 rfl ?_); refine zF 7 Try.func25 #[.agg #[.slice B l.length E, .slice I q.length J, .slice L u.length M, .slice O y.length T, .slice U z.length X]] rfl zL ?_; refine (impl_Nest_lives.calls k _ _ l _ _ q _ _ u _ _ y _ _ z d0 _ (zS q0) s0.out (zS t0) x0.out (zS y0) A0.out (zS B0) C0.out (zS D0) E0.out A4.out).mono ?_; rintro e w9 ⟨v396, rfl, o1, hb⟩; refine ⟨_, rfl, ?_⟩; have a0 := zK (Kd.R_lower o1 (zz zB)); have b0 := z7 A hb; have G0 := z8 hb; revert a0 b0 G0; clear A HB; intro I0 A HB))
 · go_ret
   exact ⟨_, zE, zkR I0, zB⟩
 all_goals go_ret
 all_goals exact ⟨_, zE, by first | exact Kd.R_nil _ _ _ _ _ | exact Kd.N_nil _ _ _ _ _ | exact Kd.V_nil _ _ _ _ _ | exact Kd.Q_nil _ _ _ _ _ | exact Kd.S_nil _ _ _ _ _, zB⟩
def laws_eqLife.f (l : Int) (q : Int) (u : Int) (y : Int) (z : Int) (A : Int) (B : Int) (E : Int) : Option (Bool) := if l = z then (if q = A then (if u = B then (if y = E then (some true) else (some false)) else (some false)) else (some false)) else (some false)
theorem laws_eqLife.calls (q) (u) (y) (z) (A) (B) (E) (I) (r : Bool) (w) (h : laws_eqLife.f q u y z A B E I = some r) :
 Calls Try.prog 32 #[.agg #[.int .i64 q, .int .i64 u, .int .i64 y, .int .i64 z], .agg #[.int .i64 A, .int .i64 B, .int .i64 E, .int .i64 I]] w fun e w' => e = .returned (.bool r) ∧ Below w.heap.size w w' := by
 have b1 := Try.underlying52
 have HB := zK (Below.refl w.heap.size w)
 have H : (if q = A then (if u = B then (if y = E then (if z = I then (some true) else (some false)) else (some false)) else (some false)) else (some false)) = some r := h
 clear h
 rcases zN (q = A) with J | J
 rw [if_neg J] at H
 have e0 := beq_eq_false_iff_ne.mpr J
 have f0 := bne_iff_ne.mpr J
 obtain rfl := z5 H
 rotate_left
 rw [if_pos J] at H
 have e0 := beq_iff_eq.mpr J
 have f0 := bne_eq_false_iff_eq.mpr J
 clear J
 rcases zN (u = B) with L | L
 rw [if_neg L] at H
 have g0 := beq_eq_false_iff_ne.mpr L
 have i0 := bne_iff_ne.mpr L
 obtain rfl := z5 H
 rotate_left
 rw [if_pos L] at H
 have g0 := beq_iff_eq.mpr L
 have i0 := bne_eq_false_iff_eq.mpr L
 clear L
 rcases zN (y = E) with M | M
 rw [if_neg M] at H
 have j0 := beq_eq_false_iff_ne.mpr M
 have l0 := bne_iff_ne.mpr M
 obtain rfl := z5 H
 rotate_left
 rw [if_pos M] at H
 have j0 := beq_iff_eq.mpr M
 have l0 := bne_eq_false_iff_eq.mpr M
 clear M
 by_cases U : z = I
 rw [if_pos U] at H
 have m0 := beq_iff_eq.mpr U
 have n0 := bne_eq_false_iff_eq.mpr U
 clear U
 obtain rfl := z5 H
 rotate_left
 rw [if_neg U] at H
 have m0 := beq_eq_false_iff_ne.mpr U
 have n0 := bne_iff_ne.mpr U
 obtain rfl := z5 H
 all_goals go_enter Try.func32, Try.ntmps32
 all_goals go_wp2_with (first | ((with_reducible refine gd 2 rfl ?_); refine zJ 2 #[.int .i64 q, .int .i64 u, .int .i64 y, .int .i64 z] 52 ?_; intro O0 hg c1 hbox hb; have X := z8 hb; have a0 := zK (hbox); have b0 := z9 hg; have c0 := z9 hg; revert X a0 b0 c0; clear HB; intro HB l R0 S0; clear hb hbox hg) | ((with_reducible refine gd 3 rfl ?_); refine zJ 3 #[.int .i64 A, .int .i64 B, .int .i64 E, .int .i64 I] 52 ?_; intro T0 hg d1 hbox hb; have X := z7 l hb; have a0 := z8 hb; have b0 := zK (hbox); have c0 := z9 hg; have L0 := z9 hg; have M0 := zHH hg l; have N0 := zGG hg l; revert X a0 b0 c0 L0 M0 N0; clear l HB; intro l HB d0 U0 V0 O T; clear hb hbox hg; have X0 := O.out; have a1 := T.out; obtain ⟨o0, p0, q0, s0, t0, x0, y0, A0⟩ := zc4 l; obtain ⟨B0, C0, D0, E0, F0, G0, I0, J0⟩ := zc4 d0))
 all_goals go_ret
 all_goals exact ⟨zE, zB⟩
def laws_eqLifeS.l0 : Nat → List (S52) → List (S52) → Int → Option (Bool)
 | 0, _, _, _ => none
 | k + 1, q, u, l => if l < (q.length : Int) then (if 0 ≤ l then (if l < (u.length : Int) then ((laws_eqLife.f ((rd_T52 q l).f0) ((rd_T52 q l).f1) ((rd_T52 q l).f2) ((rd_T52 q l).f3) ((rd_T52 u l).f0) ((rd_T52 u l).f1) ((rd_T52 u l).f2) ((rd_T52 u l).f3)).bind fun y => (if y = true then (laws_eqLifeS.l0 k q u (wrap64 (l + 1))) else (some false))) else (none)) else (none)) else (some true)
def laws_eqLifeS.f (k : Nat) (l : List (S52)) (q : List (S52)) : Option (Bool) := if (l.length : Int) = (q.length : Int) then (laws_eqLifeS.l0 k l q 0) else (some false)
def laws_eqLifeS.T6 : Bool × List (List Nat × List Nat) := (true, [([], []), ([], []), ([0, 1], [0, 1]), ([2], [2]), ([], []), ([], []), ([4, 5], [4, 5]), ([6], [6]), ([3, 7], [3, 7]), ([8], [8])])
def laws_eqLifeS.B6 : List Nat := [0, 0, 3, 7, 0, 0, 48, 112, 255, 511]
theorem laws_eqLifeS.tab6 : rtab .any (opsOf Try.f14 6) = laws_eqLifeS.T6 := by kernel_rfl
theorem laws_eqLifeS.bits6 : waitsOk laws_eqLifeS.T6.2 laws_eqLifeS.B6 = true := by kernel_rfl
theorem laws_eqLifeS.calls (k) (A0) (c0) (y : List (S52)) (A1) (c1) (z : List (S52)) (r : Bool) (w) (G0 : Kd.C k52 w A0 y.length y) (I0 : y.length ≤ c0) (J0 : Kd.C k52 w A1 z.length z) (L0 : z.length ≤ c1) (h : laws_eqLifeS.f k y z = some r) :
 Calls Try.prog 14 #[.slice A0 y.length c0, .slice A1 z.length c1] w fun e w' => e = .returned (.bool r) ∧ Below w.heap.size w w' := by
 have p1 := Try.underlying52
 have M0 := zK G0
 have x1 := zK I0
 clear G0 I0
 have N0 := zK J0
 have y1 := zK L0
 clear J0 L0
 have HB := zK (Below.refl w.heap.size w)
 have H : (if (y.length : Int) = (z.length : Int) then (laws_eqLifeS.l0 k y z 0) else (some false)) = some r := h
 clear h
 by_cases c3 : (y.length : Int) = (z.length : Int)
 rotate_left
 · rw [if_neg c3] at H
   have y0 := beq_eq_false_iff_ne.mpr c3
   have B0 := bne_iff_ne.mpr c3
   have C0 : (y.length == z.length) = false := by first | simpa using c3 | (simp at c3 ⊢; omega)
   obtain rfl := z5 H
   go_enter Try.func14, Try.ntmps14
   go_wp2
   go_ret
   exact ⟨zE, zB⟩
 rw [if_pos c3] at H
 have y0 := beq_iff_eq.mpr c3
 have B0 := bne_eq_false_iff_eq.mpr c3
 have C0 : (y.length == z.length) = true := by first | simpa using c3 | (simp at c3 ⊢; omega)
 clear c3
 have H' := zK H
 clear H
 go_enter Try.func14, Try.ntmps14
 go_wp2
 go_loopg [5] k (fun kq v5 w' => ∃ (l : Int), v5 = .int .i64 l ∧ Aside0 (laws_eqLifeS.l0 kq y z l = some r) ∧ Aside0 (kq ≤ k) ∧ Aside0 (Below w.heap.size w w'))
 case atStart => exact ⟨(0), zR, H', ⟨Nat.le_refl _⟩, ⟨zB⟩⟩
 clear H'
 try clear c1
 try clear p2
 try clear c3
 try clear y0
 try clear B0
 try clear C0
 obtain ⟨l, rfl, HA, O0, HB⟩ := hrel
 rcases gk with _ | k1
 · exact absurd HA.out (by simp [laws_eqLifeS.l0])
 have H := HA.out
 clear HA
 simp only [laws_eqLifeS.l0] at H
 by_cases c4 : l < (y.length : Int)
 rotate_left
 · rw [if_neg c4] at H
   have T0 := z2 c4
   clear c4
   obtain rfl := z5 H
   go_wp2
   go_ret
   exact ⟨zE, zB⟩
 rw [if_pos c4] at H
 have T0 := z1 c4
 clear c4
 by_cases c5 : 0 ≤ l
 rotate_left
 · rw [if_neg c5] at H
   exact absurd H (by simp)
 rw [if_pos c5] at H
 have q1 := z1 c5
 clear c5
 by_cases c6 : l < (z.length : Int)
 rotate_left
 · rw [if_neg c6] at H
   exact absurd H (by simp)
 rw [if_pos c6] at H
 have t1 := z1 c6
 clear c6
 replace H := z6 H
 obtain ⟨U0, R0, H⟩ := H
 have A7 := zK R0
 clear R0
 by_cases c8 : U0 = true
 rotate_left
 · replace c8 := Bool.eq_false_iff.mpr c8
   subst c8
   rw [if_neg (show ¬ (false = true) by decide)] at H
   obtain rfl := z5 H
   try go_wp2
   have p0 := zK (ze HB.out)
   revert p0
   clear HB
   intro HB
   have i0 : 0 ≤ (l : Int) := z3
   have j0 : l < (y.length : Int) := z3
   obtain ⟨q, q0, A, B, E, I⟩ := at_T52 M0.out l i0 j0
   have T := I
   have U := E
   have X := B
   have a0 := A
   cases q0
   (try replace A := zX HB A)
   (try replace B := zX HB B)
   (try replace E := zX HB E)
   (try replace I := zX HB I)
   replace i0 := eq_true i0
   replace j0 := eq_true j0
   have m0 : 0 ≤ (l : Int) := z3
   have n0 : l < (z.length : Int) := z3
   obtain ⟨u, t0, J, L, M, O⟩ := at_T52 N0.out l m0 n0
   have b0 := O
   have d0 := M
   have e0 := L
   have g0 := J
   cases t0
   (try replace J := zX HB J)
   (try replace L := zX HB L)
   (try replace M := zX HB M)
   (try replace O := zX HB O)
   replace m0 := eq_true m0
   replace n0 := eq_true n0
   refine start_ (n := 10) (S := fun w' => w'.cell? (q.add ((l).toNat * 4)) = some (.int .i64 ((rd_T52 y l).f0)) ∧ w'.cell? ⟨(q.add ((l).toNat * 4)).block, (q.add ((l).toNat * 4)).off + 1, none⟩ = some (.int .i64 ((rd_T52 y l).f1)) ∧ w'.cell? ⟨(q.add ((l).toNat * 4)).block, (q.add ((l).toNat * 4)).off + 2, none⟩ = some (.int .i64 ((rd_T52 y l).f2)) ∧ w'.cell? ⟨(q.add ((l).toNat * 4)).block, (q.add ((l).toNat * 4)).off + 3, none⟩ = some (.int .i64 ((rd_T52 y l).f3)) ∧ w'.cell? (u.add ((l).toNat * 4)) = some (.int .i64 ((rd_T52 z l).f0)) ∧ w'.cell? ⟨(u.add ((l).toNat * 4)).block, (u.add ((l).toNat * 4)).off + 1, none⟩ = some (.int .i64 ((rd_T52 z l).f1)) ∧ w'.cell? ⟨(u.add ((l).toNat * 4)).block, (u.add ((l).toNat * 4)).off + 2, none⟩ = some (.int .i64 ((rd_T52 z l).f2)) ∧ w'.cell? ⟨(u.add ((l).toNat * 4)).block, (u.add ((l).toNat * 4)).off + 3, none⟩ = some (.int .i64 ((rd_T52 z l).f3))) (ds := []) (bl 10 0) (by kernel_rfl) rfl (by kernel_rfl) ⟨(zX HB a0:), (zX HB X:), (zX HB U:), (zX HB T:), (zX HB g0:), (zX HB e0:), (zX HB d0:), (zX HB b0:)⟩ (fun hHeld => ?_); refine with_tabW laws_eqLifeS.tab6 laws_eqLifeS.bits6 (fun HT_ HW_ => ?_)
   generalize wr.drew = B1 at HB A B E I J L M O hHeld ⊢
   refine zP 0 17 (bl 10 1) HT_ ?_
   refine zP 1 18 (bl 10 3) HT_ ?_
   refine zP 2 19 (bl 10 7) HT_ ?_
   refine zP 4 21 (bl 10 23) HT_ ?_
   refine zP 5 22 (bl 10 55) HT_ ?_
   refine zP 6 23 (bl 10 119) HT_ ?_
   refine zT 3 20 (bl 10 127) rfl rfl HT_ HW_ hHeld (by rintro w' ⟨s0, s1, s2, s3, s4, s5, s6, s7⟩; go_simp; with_reducible rfl) ?_
   refine zT 7 24 (bl 10 255) rfl rfl HT_ HW_ hHeld (by rintro w' ⟨s0, s1, s2, s3, s4, s5, s6, s7⟩; go_simp; with_reducible rfl) ?_
   refine one_ (i := 8) (N := some 25) (bl 10 511) rfl rfl (one_of HT_.out (by kernel_rfl)) (by decide) (fun K hK => ?_)
   refine goes_ Try.func32 (by kernel_rfl) rfl #[.agg #[.int .i64 ((rd_T52 y l).f0), .int .i64 ((rd_T52 y l).f1), .int .i64 ((rd_T52 y l).f2), .int .i64 ((rd_T52 y l).f3)], .agg #[.int .i64 ((rd_T52 z l).f0), .int .i64 ((rd_T52 z l).f1), .int .i64 ((rd_T52 z l).f2), .int .i64 ((rd_T52 z l).f3)]] (by rfl) rfl rfl zL ?_
   with_reducible refine (laws_eqLife.calls ((rd_T52 y l).f0) ((rd_T52 y l).f1) ((rd_T52 y l).f2) ((rd_T52 y l).f3) ((rd_T52 z l).f0) ((rd_T52 z l).f1) ((rd_T52 z l).f2) ((rd_T52 z l).f3) false _ A7.out).mono ?_
   rintro e C1 ⟨rfl, hb⟩
   refine ⟨_, rfl, ?_⟩
   have p0 := z8 hb
   revert p0
   clear HB
   intro HB
   (try clear hb)
   (try clear hb2)
   (try clear hk)
   (try clear hi)
   refine hK.out _ _ ⟨(zX HB a0:), (zX HB X:), (zX HB U:), (zX HB T:), (zX HB g0:), (zX HB e0:), (zX HB d0:), (zX HB b0:)⟩ (fun hHeld => ?_)
   clear hK K
   refine zU 25 ?_
   refine zP 9 26 (bl 10 1023) HT_ ?_
   refine done_ (done_of HT_.out (by kernel_rfl)) ?_
   try go_wp2
   go_ret
   exact ⟨zE, zB⟩
 subst c8
 rw [if_pos rfl] at H
 have H' := zK H
 clear H
 try go_wp2
 have p0 := zK (ze HB.out)
 revert p0
 clear HB
 intro HB
 have i0 : 0 ≤ (l : Int) := z3
 have j0 : l < (y.length : Int) := z3
 obtain ⟨q, q0, A, B, E, I⟩ := at_T52 M0.out l i0 j0
 have T := I
 have U := E
 have X := B
 have a0 := A
 cases q0
 (try replace A := zX HB A)
 (try replace B := zX HB B)
 (try replace E := zX HB E)
 (try replace I := zX HB I)
 replace i0 := eq_true i0
 replace j0 := eq_true j0
 have m0 : 0 ≤ (l : Int) := z3
 have n0 : l < (z.length : Int) := z3
 obtain ⟨u, t0, J, L, M, O⟩ := at_T52 N0.out l m0 n0
 have b0 := O
 have d0 := M
 have e0 := L
 have g0 := J
 cases t0
 (try replace J := zX HB J)
 (try replace L := zX HB L)
 (try replace M := zX HB M)
 (try replace O := zX HB O)
 replace m0 := eq_true m0
 replace n0 := eq_true n0
 refine start_ (n := 10) (S := fun w' => w'.cell? (q.add ((l).toNat * 4)) = some (.int .i64 ((rd_T52 y l).f0)) ∧ w'.cell? ⟨(q.add ((l).toNat * 4)).block, (q.add ((l).toNat * 4)).off + 1, none⟩ = some (.int .i64 ((rd_T52 y l).f1)) ∧ w'.cell? ⟨(q.add ((l).toNat * 4)).block, (q.add ((l).toNat * 4)).off + 2, none⟩ = some (.int .i64 ((rd_T52 y l).f2)) ∧ w'.cell? ⟨(q.add ((l).toNat * 4)).block, (q.add ((l).toNat * 4)).off + 3, none⟩ = some (.int .i64 ((rd_T52 y l).f3)) ∧ w'.cell? (u.add ((l).toNat * 4)) = some (.int .i64 ((rd_T52 z l).f0)) ∧ w'.cell? ⟨(u.add ((l).toNat * 4)).block, (u.add ((l).toNat * 4)).off + 1, none⟩ = some (.int .i64 ((rd_T52 z l).f1)) ∧ w'.cell? ⟨(u.add ((l).toNat * 4)).block, (u.add ((l).toNat * 4)).off + 2, none⟩ = some (.int .i64 ((rd_T52 z l).f2)) ∧ w'.cell? ⟨(u.add ((l).toNat * 4)).block, (u.add ((l).toNat * 4)).off + 3, none⟩ = some (.int .i64 ((rd_T52 z l).f3))) (ds := []) (bl 10 0) (by kernel_rfl) rfl (by kernel_rfl) ⟨(zX HB a0:), (zX HB X:), (zX HB U:), (zX HB T:), (zX HB g0:), (zX HB e0:), (zX HB d0:), (zX HB b0:)⟩ (fun hHeld => ?_); refine with_tabW laws_eqLifeS.tab6 laws_eqLifeS.bits6 (fun HT_ HW_ => ?_)
 generalize wr.drew = w9 at HB A B E I J L M O hHeld ⊢
 refine zP 0 17 (bl 10 1) HT_ ?_
 refine zP 1 18 (bl 10 3) HT_ ?_
 refine zP 2 19 (bl 10 7) HT_ ?_
 refine zP 4 21 (bl 10 23) HT_ ?_
 refine zP 5 22 (bl 10 55) HT_ ?_
 refine zP 6 23 (bl 10 119) HT_ ?_
 refine zT 3 20 (bl 10 127) rfl rfl HT_ HW_ hHeld (by rintro w' ⟨s0, s1, s2, s3, s4, s5, s6, s7⟩; go_simp; with_reducible rfl) ?_
 refine zT 7 24 (bl 10 255) rfl rfl HT_ HW_ hHeld (by rintro w' ⟨s0, s1, s2, s3, s4, s5, s6, s7⟩; go_simp; with_reducible rfl) ?_
 refine one_ (i := 8) (N := some 25) (bl 10 511) rfl rfl (one_of HT_.out (by kernel_rfl)) (by decide) (fun K hK => ?_)
 refine goes_ Try.func32 (by kernel_rfl) rfl #[.agg #[.int .i64 ((rd_T52 y l).f0), .int .i64 ((rd_T52 y l).f1), .int .i64 ((rd_T52 y l).f2), .int .i64 ((rd_T52 y l).f3)], .agg #[.int .i64 ((rd_T52 z l).f0), .int .i64 ((rd_T52 z l).f1), .int .i64 ((rd_T52 z l).f2), .int .i64 ((rd_T52 z l).f3)]] (by rfl) rfl rfl zL ?_
 with_reducible refine (laws_eqLife.calls ((rd_T52 y l).f0) ((rd_T52 y l).f1) ((rd_T52 y l).f2) ((rd_T52 y l).f3) ((rd_T52 z l).f0) ((rd_T52 z l).f1) ((rd_T52 z l).f2) ((rd_T52 z l).f3) true _ A7.out).mono ?_
 rintro e D1 ⟨rfl, hb⟩
 refine ⟨_, rfl, ?_⟩
 have p0 := z8 hb
 revert p0
 clear HB
 intro HB
 (try clear hb)
 (try clear hb2)
 (try clear hk)
 (try clear hi)
 refine hK.out _ _ ⟨(zX HB a0:), (zX HB X:), (zX HB U:), (zX HB T:), (zX HB g0:), (zX HB e0:), (zX HB d0:), (zX HB b0:)⟩ (fun hHeld => ?_)
 clear hK K
 refine zU 25 ?_
 refine zP 9 26 (bl 10 1023) HT_ ?_
 refine done_ (done_of HT_.out (by kernel_rfl)) ?_
 try go_wp2
 go_roundg k1
 case measure => have := O0.out; omega
 case rel => exact ⟨(wrap64 (l + 1)), zR, H', ⟨by have := O0.out; omega⟩, ⟨zB⟩⟩
def laws_eqIntS.l0 : Nat → List Int → List Int → Int → Option (Bool)
 | 0, _, _, _ => none
 | k + 1, q, u, l => if l < (q.length : Int) then (if 0 ≤ l then (if l < (u.length : Int) then (if (rd q l) = (rd u l) then (laws_eqIntS.l0 k q u (wrap64 (l + 1))) else (some false)) else (none)) else (none)) else (some true)
def laws_eqIntS.f (k : Nat) (l : List Int) (q : List Int) : Option (Bool) := if (l.length : Int) = (q.length : Int) then (laws_eqIntS.l0 k l q 0) else (some false)
theorem laws_eqIntS.calls (k) (A0) (c0) (q : List Int) (A1) (c1) (u : List Int) (r : Bool) (w) (g0 : Kd.C (Kd.int .i64) w A0 q.length q) (i0 : q.length ≤ c0) (j0 : Kd.C (Kd.int .i64) w A1 u.length u) (m0 : u.length ≤ c1) (h : laws_eqIntS.f k q u = some r) :
 Calls Try.prog 27 #[.slice A0 q.length c0, .slice A1 u.length c1] w fun e w' => e = .returned (.bool r) ∧ Drawn0 w w' := by
 have n0 := zK g0
 have F0 := zK i0
 clear g0 i0
 have o0 := zK j0
 have G0 := zK m0
 clear j0 m0
 have H : (if (q.length : Int) = (u.length : Int) then (laws_eqIntS.l0 k q u 0) else (some false)) = some r := h
 clear h
 by_cases E : (q.length : Int) = (u.length : Int)
 rotate_left
 · rw [if_neg E] at H
   have U := beq_eq_false_iff_ne.mpr E
   have X := bne_iff_ne.mpr E
   have a0 : (q.length == u.length) = false := by first | simpa using E | (simp at E ⊢; omega)
   obtain rfl := z5 H
   go_enter Try.func27, Try.ntmps27
   go_wp2
   repeat (go_quiet (fail); try go_wp2)
   go_ret
   exact ⟨zR, zD⟩
 rw [if_pos E] at H
 have U := beq_iff_eq.mpr E
 have X := bne_eq_false_iff_eq.mpr E
 have a0 : (q.length == u.length) = true := by first | simpa using E | (simp at E ⊢; omega)
 clear E
 have H' := zK H
 clear H
 go_enter Try.func27, Try.ntmps27
 go_wp2
 repeat (go_quiet (fail); try go_wp2)
 go_loopg [5] k (fun kq v5 w' => ∃ (l : Int), v5 = .int .i64 l ∧ Aside0 (laws_eqIntS.l0 kq q u l = some r) ∧ Aside0 (kq ≤ k) ∧ Drawn0 w w')
 case atStart => exact ⟨(0), zR, H', ⟨Nat.le_refl _⟩, zD⟩
 clear H'
 try clear c1
 try clear c2
 try clear p2
 try clear E
 try clear U
 try clear X
 try clear a0
 obtain ⟨l, rfl, HA, p0, ⟨m1, rfl⟩⟩ := hrel
 rcases gk with _ | k1
 · exact absurd HA.out (by simp [laws_eqIntS.l0])
 have H := HA.out
 clear HA
 simp only [laws_eqIntS.l0] at H
 by_cases M : l < (q.length : Int)
 rotate_left
 · rw [if_neg M] at H
   have s0 := z2 M
   clear M
   obtain rfl := z5 H
   go_wp2
   repeat (go_quiet (fail); try go_wp2)
   go_ret
   exact ⟨zR, zD⟩
 rw [if_pos M] at H
 have s0 := z1 M
 clear M
 by_cases c5 : 0 ≤ l
 rotate_left
 · rw [if_neg c5] at H
   exact absurd H (by simp)
 rw [if_pos c5] at H
 have D0 := z1 c5
 clear c5
 by_cases c6 : l < (u.length : Int)
 rotate_left
 · rw [if_neg c6] at H
   exact absurd H (by simp)
 rw [if_pos c6] at H
 have E0 := z1 c6
 clear c6
 by_cases I : (rd q l) = (rd u l)
 rotate_left
 · rw [if_neg I] at H
   have t0 := beq_eq_false_iff_ne.mpr I
   have x0 := bne_iff_ne.mpr I
   obtain rfl := z5 H
   have y : 0 ≤ (l : Int) := z3
   have z : l < (q.length : Int) := z3
   obtain ⟨e0, J, O⟩ := Kd.at_int n0.out l y z
   cases J
   replace y := eq_true y
   replace z := eq_true z
   have A : 0 ≤ (l : Int) := z3
   have B : l < (u.length : Int) := z3
   obtain ⟨f0, L, T⟩ := Kd.at_int o0.out l A B
   cases L
   replace A := eq_true A
   replace B := eq_true B
   go_wp2
   repeat (go_quiet (fail); try go_wp2)
   go_ret
   exact ⟨zR, zD⟩
 rw [if_pos I] at H
 have t0 := beq_iff_eq.mpr I
 have x0 := bne_eq_false_iff_eq.mpr I
 clear I
 have H' := zK H
 clear H
 have y : 0 ≤ (l : Int) := z3
 have z : l < (q.length : Int) := z3
 obtain ⟨e0, J, O⟩ := Kd.at_int n0.out l y z
 cases J
 replace y := eq_true y
 replace z := eq_true z
 have A : 0 ≤ (l : Int) := z3
 have B : l < (u.length : Int) := z3
 obtain ⟨f0, L, T⟩ := Kd.at_int o0.out l A B
 cases L
 replace A := eq_true A
 replace B := eq_true B
 go_wp2
 repeat (go_quiet (fail); try go_wp2)
 go_roundg k1
 case measure => have := p0.out; omega
 case rel => exact ⟨(wrap64 (l + 1)), zR, H', ⟨by have := p0.out; omega⟩, zD⟩
def laws_eqFix.f (k : Nat) (l : Int) (q : List Int) (u : Int) (y : List Int) : Option (Bool) := if l = u then ((laws_eqIntS.f k q y).bind fun z => (if z = true then (some true) else (some false))) else (some false)
theorem laws_eqFix.calls (k) (y) (A) (B) (l : List Int) (z) (E) (I) (q : List Int) (r : Bool) (w) (T : Kd.C (Kd.int .i64) w A l.length l) (U : l.length ≤ B) (X : Kd.C (Kd.int .i64) w E q.length q) (a0 : q.length ≤ I) (h : laws_eqFix.f k y l z q = some r) :
 Calls Try.prog 57 #[.agg #[.int .i64 y, .slice A l.length B], .agg #[.int .i64 z, .slice E q.length I]] w fun e w' => e = .returned (.bool r) ∧ Below w.heap.size w w' := by
 have S0 := Try.underlying71
 have f0 := zK T
 have g0 := zK U
 clear T U
 have i0 := zK X
 have j0 := zK a0
 clear X a0
 have HB := zK (Below.refl w.heap.size w)
 have H : (if y = z then ((laws_eqIntS.f k l q).bind fun O => (if O = true then (some true) else (some false))) else (some false)) = some r := h
 clear h
 rcases zN (y = z) with J | J
 rw [if_neg J] at H
 have o0 := beq_eq_false_iff_ne.mpr J
 have p0 := bne_iff_ne.mpr J
 obtain rfl := z5 H
 rotate_left
 rw [if_pos J] at H
 have o0 := beq_iff_eq.mpr J
 have p0 := bne_eq_false_iff_eq.mpr J
 clear J
 replace H := z6 H
 obtain ⟨O, n0, H⟩ := H
 have A4 := zK n0
 clear n0
 by_cases c5 : O = true
 subst c5
 rw [if_pos rfl] at H
 obtain rfl := z5 H
 rotate_left
 replace c5 := Bool.eq_false_iff.mpr c5
 subst c5
 rw [if_neg (show ¬ (false = true) by decide)] at H
 obtain rfl := z5 H
 all_goals go_enter Try.func57, Try.ntmps57
 all_goals go_wp2_with (first | ((with_reducible refine gd 2 rfl ?_); refine zJ 2 #[.int .i64 y, .slice A l.length B] 71 ?_; intro G0 hg U0 hbox hb; have b0 := z8 hb; have c0 := zK (hbox); have d0 := z9 hg; have e0 := z9 hg; revert b0 c0 d0 e0; clear HB; intro HB u I0 J0; clear hb hbox hg) | ((with_reducible refine gd 3 rfl ?_); refine zJ 3 #[.int .i64 z, .slice E q.length I] 71 ?_; intro L0 hg V0 hbox hb; have b0 := z7 u hb; have c0 := z8 hb; have d0 := zK (hbox); have e0 := z9 hg; have D0 := z9 hg; have E0 := zHH hg u; have F0 := zGG hg u; revert b0 c0 d0 e0 D0 E0 F0; clear u HB; intro u HB m0 M0 N0 L M; clear hb hbox hg; have O0 := L.out; have R0 := M.out; obtain ⟨q0, s0, t0, x0⟩ := zc2 u; obtain ⟨y0, A0, B0, C0⟩ := zc2 m0) | ((with_reducible refine gc 27 rfl ?_); refine zF 14 Try.func27 #[.slice A l.length B, .slice E q.length I] rfl zL ?_; refine (laws_eqIntS.calls k _ _ l _ _ q _ _ (zS f0) g0.out (zS i0) j0.out A4.out).mono ?_; rintro e w' ⟨rfl, ⟨nd, rfl⟩⟩; refine ⟨_, rfl, ?_⟩))
 all_goals go_ret
 all_goals exact ⟨zE, zB⟩
end Go.Proofs.Ytmcboiffbcnalaa.PFnExactLives
