-- Printed out of the translation by this session's own turned copy of a printer; Lean checks it.
import Derived.Test.YtmcboiffbcnalaaPFnExactPlanOkx0
namespace Go.Proofs.Ytmcboiffbcnalaa.PFnExactPlanOk
open Go.RowKit Go.Proofs.YtmcboiffbcnalaaW.PrintWords Go.Proofs.YtmcboiffbcnalaaW.PrintLast Go.Proofs.YtmcboiffbcnalaaW.PrintMore
attribute [local go_sem] max2_int min2_int max_two min_two max_three min_three max_four min_four
set_option linter.unusedVariables false
set_option linter.unusedSimpArgs false
set_option maxHeartbeats 8000000
set_option maxRecDepth 100000
def laws_toIntS.l0 : Nat → List Int → List Int → Int → Option (List Int)
 | 0, _, _, _ => none
 | k + 1, l, q, a => if a < (l.length : Int) then (if 0 ≤ a then (if a < (q.length : Int) then (laws_toIntS.l0 k l (q.set (a : Int).toNat (rd l a)) (wrap64 (a + 1))) else (none)) else (none)) else (some q)
def laws_toIntS.f (k : Nat) (a : List Int) : Option (List Int) := if 0 ≤ (a.length : Int) then (if ((a.length : Int) : Int).toNat ≤ 35184372088832 then (laws_toIntS.l0 k a (List.replicate ((a.length : Int) : Int).toNat 0) 0) else (none)) else (none)
theorem laws_toIntS.calls (k) (A0) (c0) (l : List Int) (r : List Int) (w) (e0 : Kd.C (Kd.int .i64) w A0 l.length l) (f0 : l.length ≤ c0) (h : laws_toIntS.f k l = some r) :
 Calls Try.prog 23 #[.slice A0 l.length c0] w fun e w' => ∃ v0_ : Value, e = .returned (v0_) ∧ Kd.R (Kd.int .i64) 3 w' w.heap.size (fun _ => True) v0_ r ∧ Below w.heap.size w w' := by
 have C0 := zK e0
 have J0 := zK f0
 clear e0 f0
 have HB := zK (Below.refl w.heap.size w)
 have H : (if 0 ≤ (l.length : Int) then (if ((l.length : Int) : Int).toNat ≤ 35184372088832 then (laws_toIntS.l0 k l (List.replicate ((l.length : Int) : Int).toNat 0) 0) else (none)) else (none)) = some r := h
 clear h
 by_cases J : 0 ≤ (l.length : Int)
 rotate_left
 · rw [if_neg J] at H
   exact absurd H (by simp)
 rw [if_pos J] at H
 have m0 := eq_true J
 have n0 := z1 J
 clear J
 by_cases L : ((l.length : Int) : Int).toNat ≤ 35184372088832
 rotate_left
 · rw [if_neg L] at H
   exact absurd H (by simp)
 rw [if_pos L] at H
 have o0 := eq_true L
 have p0 := z1 L
 clear L
 obtain ⟨O, x⟩ : ∃ y_ : List Int, y_ = (List.replicate ((l.length : Int) : Int).toNat 0) := ⟨_, rfl⟩
 replace H : (laws_toIntS.l0 k l O 0) = some r := by first | (rw [x]; with_reducible exact H) | (have z := (Option.bind_some _ _).symm.trans H; rw [x]; with_reducible exact z) | (have z := (Option.bind_some _ _).symm.trans H; with_reducible exact z) | with_reducible exact H | (rw [x]; exact H) | exact H
 have Ny257 := zK x
 clear x
 have H' := zK H
 clear H
 go_enter Try.func23, Try.ntmps23
 go_wp2_with (first | ((with_reducible refine gd 7 rfl ?_); refine Kd.R_make (Kd.int .i64) _ 3 rfl (N := 7) rfl 22 _ _ rfl (l.length : Int) rfl rfl Try.underlying22 (.int .i64 0) 8 info3 rfl (by decide) (by omega) 0 (ok := fun _ => True) (okp := fun _ => True) rfl (fun _ hk => hk) trivial (z3) (Nat.le_trans (Nat.mul_le_mul_right _ (z3 : (l.length : Int).toNat ≤ 35184372088832)) (by omega)) (Below.refl _ _) (Nat.le_refl _) ?_; intro v258 w4 B hb hg_ hnew_; clear hg_ hnew_; (first | rw [← Ny257.out] at B | (simp only [Int.reduceToNat] at B; rw [← Ny257.out] at B)); have T := zK (Kd.R_lower B (zz zB)); have U := z8 hb; revert T U; clear HB; intro a0 HB; clear hb B))
 go_loopg [4] k (fun kq v4 w' => ∃ (q : List Int) (a : Int), v4 = .int .i64 a ∧ Aside0 (laws_toIntS.l0 kq l q a = some r) ∧ Aside0 (kq ≤ k) ∧ Aside0 (Kd.R (Kd.int .i64) 3 w' w.heap.size (fun _ => True) v258 q) ∧ Aside0 (Below w.heap.size w w'))
 case atStart => exact ⟨(O), (0), zR, H', ⟨Nat.le_refl _⟩, ⟨zkR a0⟩, ⟨zB⟩⟩
 clear H'
 try clear J
 try clear m0
 try clear n0
 try clear p2
 try clear L
 try clear o0
 try clear p0
 obtain ⟨q, a, rfl, HA, g0, u, HB⟩ := hrel
 rcases gk with _ | k1
 · exact absurd HA.out (by simp [laws_toIntS.l0])
 have H := HA.out
 clear HA
 simp only [laws_toIntS.l0] at H
 by_cases M : a < (l.length : Int)
 rotate_left
 · rw [if_neg M] at H
   have q0 := z2 M
   clear M
   obtain rfl := z5 H
   go_wp2
   go_ret
   exact ⟨_, zE, zkR u, zB⟩
 rw [if_pos M] at H
 have q0 := z1 M
 clear M
 by_cases c7 : 0 ≤ a
 rotate_left
 · rw [if_neg c7] at H
   exact absurd H (by simp)
 rw [if_pos c7] at H
 have G0 := z1 c7
 clear c7
 by_cases c8 : a < (q.length : Int)
 rotate_left
 · rw [if_neg c8] at H
   exact absurd H (by simp)
 rw [if_pos c8] at H
 have I0 := z1 c8
 clear c8
 obtain ⟨D, y⟩ : ∃ y_ : List Int, y_ = (q.set (a : Int).toNat (rd l a)) := ⟨_, rfl⟩
 replace H : (laws_toIntS.l0 k1 l D (wrap64 (a + 1))) = some r := by first | (rw [y]; with_reducible exact H) | (have z := (Option.bind_some _ _).symm.trans H; rw [y]; with_reducible exact z) | (have z := (Option.bind_some _ _).symm.trans H; with_reducible exact z) | with_reducible exact H | (rw [y]; exact H) | exact H
 have Ny261 := zK y
 clear y
 have H' := zK H
 clear H
 have E : 0 ≤ (a : Int) := z3
 have I : a < (l.length : Int) := z3
 obtain ⟨E0, s0, A⟩ := Kd.at_int C0.out a E I
 cases s0
 (try replace A := zX HB A)
 replace E := eq_true E
 replace I := eq_true I
 have p9 : 0 ≤ (a : Int) := z3
 have q9 : (a : Int) < ((q.length : Int) : Int) := z3
 obtain ⟨go9, D0, i0, j0, gl9, cl9, HG9⟩ := Kd.R_form u.out (by omega)
 (first | cases i0 | (injection i0 with ea_ en_ ec_; (first | subst ea_ | (injection ea_ with ea_; subst ea_)); subst ec_; clear en_))
 have GB9 := zK j0
 have GG9 := zK HG9
 clear j0 gl9 HG9
 obtain ⟨F0, hf9_0⟩ := Kd.R_celln 0 u.out (a : Int) p9 q9
 replace p9 := eq_true p9
 replace q9 := eq_true q9
 have HP10 := Kd.R_putg u.out (a : Int) (rd l a)
 go_wp2_with (first | ((with_reducible refine gate_store (t := 3) (p := 20) rfl ?_); refine store_event (t := 3) (p := 20) (v := ?vo_w11) (w1 := (wr.setCell ⟨go9, (a : Int).toNat, none⟩ (.int .i64 (rd l a)))) ?hg ?ho ?hn ?hr ?_; (case ho => rfl); (case hg => rfl); (case hn => rfl); (case hr => first | (go_simp; done) | (go_simp; rfl)); intro X hw; have hg : wr.grownBy X (some go9) := (by rw [hw]; exact HP10.2); have hp_ : Kd.R (Kd.int .i64) 3 X w.heap.size (fun _ => True) (.slice (some ⟨go9, 0, none⟩) q.length D0) D := (by rw [hw, Ny261.out]; exact HP10.1); clear HP10; have T := zK (hp_); have U := zK ((by rw [hw]; exact zs (HB.out) GB9.out : Below w.heap.size w X)); revert T U; clear u HB; intro u HB; clear hg hw hp_))
 go_roundg k1
 case measure => have := g0.out; omega
 case rel => exact ⟨(D), (wrap64 (a + 1)), zR, H', ⟨by have := g0.out; omega⟩, ⟨zkR u⟩, ⟨zB⟩⟩
def laws_toFix.f (k : Nat) (a : Int) (l : List Int) : Option (Int × List Int) := (laws_toIntS.f k l).bind fun q => (some (a, q))
theorem laws_toFix.calls (k) (x) (D) (E) (q : List Int) (r1) (r2 : List Int) (w) (a0 : Kd.C (Kd.int .i64) w D q.length q) (b0 : q.length ≤ E) (h : laws_toFix.f k x q = some (r1, r2)) :
 Calls Try.prog 55 #[.agg #[.int .i64 x, .slice D q.length E]] w fun e w' => ∃ v1_ : Value, e = .returned (.agg #[.int .i64 r1, v1_]) ∧ Kd.R (Kd.int .i64) 3 w' w.heap.size (fun _ => True) v1_ r2 ∧ Below w.heap.size w w' := by
 have c1 := Try.underlying92
 have d1 := Try.underlying71
 have f0 := zK a0
 have g0 := zK b0
 clear a0 b0
 have HB := zK (Below.refl w.heap.size w)
 have H : ((laws_toIntS.f k q).bind fun I => (some (x, I))) = some (r1, r2) := h
 clear h
 replace H := z6 H
 obtain ⟨I, l0, H⟩ := H
 have A2 := zK l0
 clear l0
 simp only [Option.some.injEq, Prod.mk.injEq] at H
 obtain ⟨rfl, rfl⟩ := H
 go_enter Try.func55, Try.ntmps55
 go_wp2_with (first | ((with_reducible refine gd 1 rfl ?_); refine zJ 1 #[.int .i64 x, .slice D q.length E] 92 ?_; intro S0 hg w3 hbox hb; have y := z8 hb; have z := zK (hbox); have A := z9 hg; have B := z9 hg; revert y z A B; clear HB; intro HB a T0 U0; clear hb hbox hg) | ((with_reducible refine gd 2 rfl ?_); refine zJ 2 #[.int .i64 0, .slice none 0 0] 71 ?_; intro i0 hg w4 hbox hb; have y := z7 a hb; have z := z8 hb; have A := zK (hbox); have B := z9 hg; have J := z9 hg; have d0 := zHH hg a; have e0 := zGG hg a; revert y z A B J d0 e0; clear a HB; intro a HB l V0 X0 L M; clear hb hbox hg) | ((with_reducible refine gd 3 rfl ?_); refine zJ 3 #[.int .i64 0, .slice none 0 0] 71 ?_; intro j0 hg w5 hbox hb; have y := z7 a hb; have z := z7 l hb; have A := z8 hb; have B := zK (hbox); have J := z9 hg; have d0 := z9 hg; have e0 := zHH hg a; have G0 := zGG hg a; have I0 := zHH hg l; have J0 := zGG hg l; revert y z A B J d0 e0 G0 I0 J0; clear a l HB; intro a l HB u a1 b1 O T U X; clear hb hbox hg; have f1 := L.out; have g1 := M.out; have i1 := O.out; have j1 := T.out; obtain ⟨L0, M0, N0, O0⟩ := zc2 a; have l1 := X.out; have m1 := U.out; obtain ⟨p0, q0, s0, t0⟩ := zc2 u) | ((with_reducible refine gc 23 rfl ?_); refine zF 9 Try.func23 #[.slice D q.length E] rfl zL ?_; refine (laws_toIntS.calls k _ _ q I _ (z4 f0.out zB) g0.out A2.out).mono ?_; rintro e n1 ⟨v266, rfl, R0, hb⟩; refine ⟨_, rfl, ?_⟩; have y := zK (Kd.R_lower R0 (zz zB)); have z := zK (zg (zV a) hb); have A := zK (zg (zV l) hb); have B := zK (zg (g := j0) (o := .cells #[.int .i64 x, .slice none 0 0] 71 (0, 0)) (zW u) hb); have J := z8 hb; revert y z A B J; clear a l u HB; intro c0 a l u HB; obtain ⟨m0, n0, o0⟩ := Kd.R_slice c0.out; subst o0; obtain ⟨x0, y0, A0, B0⟩ := zc2 u; obtain ⟨C0, D0, E0, F0⟩ := zc2 l))
 refine bodyPost_ret (results_cell_row rfl _ _ i0 71 #[.int .i64 x, .slice m0 I.length n0] (0, 0) _ rfl (zW l) Try.underlying71 rfl (by kernel_rfl)) rfl ?_
 exact ⟨_, zE, Kd.R_mono (zlR (Kd.R_types (Kd.R_types c0.out u.out (by decide)) l.out (by decide))) (fun _ hk => trivial), zB⟩
def laws_toFixS.l0 : Nat → List (S92) → List (S71) → Int → Option ((List (S71)))
 | 0, _, _, _ => none
 | k + 1, q, u, a => if a < (q.length : Int) then (if 0 ≤ a then ((laws_toFix.f k ((rd_T92 q a).f0) ((rd_T92 q a).f1)).bind fun l => (if a < (u.length : Int) then (laws_toFixS.l0 k q (u.set (a : Int).toNat (⟨l.1, l.2⟩ : S71)) (wrap64 (a + 1))) else (none))) else (none)) else (some u)
def laws_toFixS.f (k : Nat) (a : List (S92)) : Option ((List (S71))) := if 0 ≤ (a.length : Int) then (if ((a.length : Int) : Int).toNat ≤ 8796093022208 then (laws_toFixS.l0 k a (List.replicate ((a.length : Int) : Int).toNat z71) 0) else (none)) else (none)
theorem laws_toFixS.calls (k) (A0) (c0) (u : List (S92)) (r : List (S71)) (w) (J0 : Kd.C k92 w A0 u.length u) (L0 : u.length ≤ c0) (h : laws_toFixS.f k u = some r) :
 Calls Try.prog 30 #[.slice A0 u.length c0] w fun e w' => ∃ v0_ : Value, e = .returned (v0_) ∧ Kd.S k71 71 w' w.heap.size (fun _ => True) v0_ r ∧ Below w.heap.size w w' := by
 have l1 := Try.underlying92
 have m1 := Try.underlying71
 have d1 := zK J0
 have q1 := zK L0
 clear J0 L0
 have HB := zK (Below.refl w.heap.size w)
 have H : (if 0 ≤ (u.length : Int) then (if ((u.length : Int) : Int).toNat ≤ 8796093022208 then (laws_toFixS.l0 k u (List.replicate ((u.length : Int) : Int).toNat z71) 0) else (none)) else (none)) = some r := h
 clear h
 by_cases c2 : 0 ≤ (u.length : Int)
 rotate_left
 · rw [if_neg c2] at H
   exact absurd H (by simp)
 rw [if_pos c2] at H
 have R0 := eq_true c2
 have S0 := z1 c2
 clear c2
 by_cases c3 : ((u.length : Int) : Int).toNat ≤ 8796093022208
 rotate_left
 · rw [if_neg c3] at H
   exact absurd H (by simp)
 rw [if_pos c3] at H
 have T0 := eq_true c3
 have U0 := z1 c3
 clear c3
 obtain ⟨o0, z⟩ : ∃ y_ : List (S71), y_ = (List.replicate ((u.length : Int) : Int).toNat z71) := ⟨_, rfl⟩
 replace H : (laws_toFixS.l0 k u o0 0) = some r := by first | (rw [z]; with_reducible exact H) | (have D := (Option.bind_some _ _).symm.trans H; rw [z]; with_reducible exact D) | (have D := (Option.bind_some _ _).symm.trans H; with_reducible exact D) | with_reducible exact H | (rw [z]; exact H) | exact H
 have Ny268 := zK z
 clear z
 have H' := zK H
 clear H
 go_enter Try.func30, Try.ntmps30
 go_wp2_with (first | ((with_reducible refine gd 7 rfl ?_); refine Kd.S_make k71 _ 71 rfl (N := 7) rfl 31 _ _ rfl (u.length : Int) rfl rfl Try.underlying31 (.agg #[(.int .i64 0), (.slice none 0 0)]) 32 info71 rfl (by decide) (by omega) z71 (ok := fun _ => True) (okp := fun _ => True) (k71_mkM _ _ _ z71 (Kd.R_nil _ _ _ _ _)) (fun _ hk => hk) trivial (z3) (Nat.le_trans (Nat.mul_le_mul_right _ (z3 : (u.length : Int).toNat ≤ 8796093022208)) (by omega)) (Below.refl _ _) (Nat.le_refl _) ?_; intro v269 w4 U hb hg_ hnew_; clear hg_ hnew_; (first | rw [← Ny268.out] at U | (simp only [Int.reduceToNat] at U; rw [← Ny268.out] at U)); have X := zK (Kd.S_lower U (zz zB)); have a0 := z8 hb; revert X a0; clear HB; intro F0 HB; clear hb U))
 go_loopg [4] k (fun kq v4 w' => ∃ (q : List (S71)) (a : Int), v4 = .int .i64 a ∧ Aside0 (laws_toFixS.l0 kq u q a = some r) ∧ Aside0 (kq ≤ k) ∧ Aside0 (Kd.S k71 71 w' w.heap.size (fun _ => True) v269 q) ∧ Aside0 (Below w.heap.size w w'))
 case atStart => exact ⟨(o0), (0), zR, H', ⟨Nat.le_refl _⟩, ⟨zkS F0⟩, ⟨zB⟩⟩
 clear H'
 try clear c2
 try clear R0
 try clear S0
 try clear p2
 try clear c3
 try clear T0
 try clear U0
 obtain ⟨q, a, rfl, HA, M0, l, HB⟩ := hrel
 rcases gk with _ | k1
 · exact absurd HA.out (by simp [laws_toFixS.l0])
 have H := HA.out
 clear HA
 simp only [laws_toFixS.l0] at H
 by_cases c6 : a < (u.length : Int)
 rotate_left
 · rw [if_neg c6] at H
   have V0 := z2 c6
   clear c6
   obtain rfl := z5 H
   go_wp2
   go_ret
   exact ⟨_, zE, zkS l, zB⟩
 rw [if_pos c6] at H
 have V0 := z1 c6
 clear c6
 by_cases c7 : 0 ≤ a
 rotate_left
 · rw [if_neg c7] at H
   exact absurd H (by simp)
 rw [if_pos c7] at H
 have n1 := z1 c7
 clear c7
 replace H := z6 H
 obtain ⟨⟨y, x⟩, N0, H⟩ := H
 replace H : (if a < (q.length : Int) then (laws_toFixS.l0 k1 u (q.set (a : Int).toNat (⟨y, x⟩ : S71)) (wrap64 (a + 1))) else (none)) = some r := H
 have A8 := zK N0
 clear N0
 by_cases c9 : a < (q.length : Int)
 rotate_left
 · rw [if_neg c9] at H
   exact absurd H (by simp)
 rw [if_pos c9] at H
 have p1 := z1 c9
 clear c9
 obtain ⟨b0, A⟩ : ∃ y_ : List (S71), y_ = (q.set (a : Int).toNat (⟨y, x⟩ : S71)) := ⟨_, rfl⟩
 replace H : (laws_toFixS.l0 k1 u b0 (wrap64 (a + 1))) = some r := by first | (rw [A]; with_reducible exact H) | (have D := (Option.bind_some _ _).symm.trans H; rw [A]; with_reducible exact D) | (have D := (Option.bind_some _ _).symm.trans H; with_reducible exact D) | with_reducible exact H | (rw [A]; exact H) | exact H
 have Ny276 := zK A
 clear A
 have H' := zK H
 clear H
 have d0 : 0 ≤ (a : Int) := z3
 have e0 : a < (u.length : Int) := z3
 obtain ⟨j1, p0, q0, X0, I, J, L, M⟩ := at_T92 d1.out a d0 e0
 cases X0
 (try replace I := zX HB I)
 (try replace J := zX HB J)
 have m0 := zK M
 have n0 := zK L
 clear M L
 replace d0 := eq_true d0
 replace e0 := eq_true e0
 go_wp2_with (first | ((with_reducible refine gc 55 rfl ?_); refine zF 20 Try.func55 #[.agg #[.int .i64 ((rd_T92 u a).f0), .slice p0 ((rd_T92 u a).f1).length q0]] rfl zL ?_; refine (laws_toFix.calls k1 ((rd_T92 u a).f0) _ _ ((rd_T92 u a).f1) y x _ (zS m0) n0.out A8.out).mono ?_; rintro e E ⟨v274, rfl, O0, hb⟩; refine ⟨_, rfl, ?_⟩; have X := zK (Kd.S_elder' (zkS l) (Kd.R_base O0) hb); have a0 := zK (Kd.R_lower O0 (zz zB)); have e1 := z8 hb; revert X a0 e1; clear l HB; intro l B HB; have s0 : 0 ≤ (a : Int) := z3; have t0 : (a : Int) < ((q.length : Int) : Int) := z3; obtain ⟨go10, x0, y0, B0, gl10, cl10, HG10⟩ := Kd.S_form l.out (by omega); (first | cases y0 | (injection y0 with ea_ en_ ec_; (first | subst ea_ | (injection ea_ with ea_; subst ea_)); subst ec_; clear en_)); have GB10 := zK B0; have GG10 := zK HG10; clear B0 gl10 HG10; obtain ⟨_, ce10, hcl10, hM10, hcc10, hfr10, _, _⟩ := Kd.S_elem l.out z71 (a : Int) s0 t0; obtain ⟨ve10_1, rfl, ge10_1⟩ := k71_openM hM10; have g1 : E.cell? ⟨go10, (a : Int).toNat * 2, none⟩ = some (.int .i64 ((rd_T71 q a).f0)) := hcc10 0 _ rfl; have i1 : E.cell? ⟨go10, (a : Int).toNat * 2 + 1, none⟩ = some (ve10_1) := hcc10 1 _ rfl; have hf10_0 : E.frozen? ⟨go10, (a : Int).toNat * 2, none⟩ = false := hfr10 0; have hf10_1 : E.frozen? ⟨go10, (a : Int).toNat * 2 + 1, none⟩ = false := hfr10 1; clear hcl10 hcc10 hfr10 hM10; replace s0 := eq_true s0; replace t0 := eq_true t0; obtain ⟨O, T, a1⟩ := Kd.R_slice B.out; subst a1; have n_ := zK (Kd.S_mono (ok' := (fun k_ => some k_ ≠ (.slice O x.length T : Value).ownBlock)) l.out (fun k_ hk => hk.2)); clear l; have l := n_; clear n_; have HX13 := zK (show Kd.S k71 71 E w.heap.size (fun k_ => ((fun _ => True)) k_ ∧ ¬ ((fun k_ => some k_ = (.slice O x.length T : Value).ownBlock)) k_) (.slice (some ⟨go10, 0, none⟩) q.length x0) q from (Kd.S_mono (zlS l.out) (fun k_ hk => ⟨trivial, fun e_ => hk e_⟩))); obtain ⟨oki13, ce13, hcl13, hM13, hcc13, hfr13, hoki13, hH13⟩ := Kd.S_elem HX13.out z71 (a : Int) (z3) (by have h_ : (a : Int) < ((q.length : Int) : Int) := z3; first | exact h_ | (have e_ := (Kd.S_reads' l.out).1; omega) | simpa using h_); obtain ⟨ve13_1, rfl, ge13_1⟩ := k71_openM hM13; have HP13 := Kd.S_seg hH13 (z3) (by have h_ : (a : Int) < ((q.length : Int) : Int) := z3; first | exact h_ | (have e_ := (Kd.S_reads' l.out).1; omega) | simpa using h_) (seg := [.int .i64 y, .slice O x.length T]) (j := 0) (show 2 ≤ 2 from by decide) (x' := (⟨y, x⟩ : S71)) (k71_mkM _ _ _ (⟨y, x⟩ : S71) (Kd.R_mono (Kd.R_tight rfl (Kd.R_mono (ok' := fun k_ => ((fun _ => True)) k_ ∧ k_ ≠ go10) (Kd.R_apart' (B.out) (Kd.S_typed l.out) (by decide)) (fun k_ hk => ⟨trivial, fun e_ => (hk.2) (by rw [e_]; rfl)⟩))) (fun _ h_ => Or.inr (h_)))) (fun _ hk => hk) (fun k_ hk_ => ((Kd.R_mono (ok' := fun k_ => ((fun _ => True)) k_ ∧ k_ ≠ go10) (Kd.R_apart' (B.out) (Kd.S_typed l.out) (by decide)) (fun k_ hk => ⟨trivial, fun e_ => (hk.2) (by rw [e_]; rfl)⟩))).1 k_ hk_.symm); have C0 := hcc13 0 _ rfl; (try simp only [show (k71).sz = 2 from rfl, Nat.mul_one, Nat.add_zero] at C0); have hf13_0 := hfr13 0; (try simp only [show (k71).sz = 2 from rfl, Nat.mul_one, Nat.add_zero] at hf13_0); have D0 := hcc13 1 _ rfl; (try simp only [show (k71).sz = 2 from rfl, Nat.mul_one, Nat.add_zero] at D0); have hf13_1 := hfr13 1; (try simp only [show (k71).sz = 2 from rfl, Nat.mul_one, Nat.add_zero] at hf13_1); clear hcl13 hcc13 hfr13 hM13 hoki13 hH13) | ((with_reducible refine gate_store (t := 71) (p := 21) rfl ?_); refine store_event (t := 71) (p := 21) (v := ?vo_w14) (w1 := ((E.setCell ⟨go10, (a : Int).toNat * 2, none⟩ (.int .i64 y)).setCell ⟨go10, (a : Int).toNat * 2 + 1, none⟩ (.slice O x.length T))) ?hg ?ho ?hn ?hr ?_; (case ho => rfl); (case hg => rfl); (case hn => rfl); (case hr => first | (go_simp; done) | (go_simp; rfl)); intro E0 hw; have hg : E.grownBy E0 (some go10) := (by rw [hw]; exact HP13.2); have hp_ : Kd.S k71 71 E0 w.heap.size (fun _ => True) (.slice (some ⟨go10, 0, none⟩) q.length x0) b0 := (by rw [hw, Ny276.out]; exact HP13.1); clear HP13; have X := zK (hp_); have a0 := zK ((by rw [hw]; exact zs (zs (HB.out) GB10.out) GB10.out : Below w.heap.size w E0)); revert X a0; clear l HB B; intro l HB; clear hg hw hp_))
 go_roundg k1
 case measure => have := M0.out; omega
 case rel => exact ⟨(b0), (wrap64 (a + 1)), zR, H', ⟨by have := M0.out; omega⟩, ⟨zkS l⟩, ⟨zB⟩⟩
def laws_toAccess.f (k : Nat) (a : Int) (l : Int) (q : List Int) : Option (Int × Int × List Int) := (laws_toIntS.f k q).bind fun u => (some (a, l, u))
theorem laws_toAccess.calls (k) (x) (y) (E) (I) (q : List Int) (r1) (r2) (r3 : List Int) (w) (b0 : Kd.C (Kd.int .i64) w E q.length q) (c0 : q.length ≤ I) (h : laws_toAccess.f k x y q = some (r1, r2, r3)) :
 Calls Try.prog 77 #[.agg #[.int .i64 x, .int .i64 y, .slice E q.length I]] w fun e w' => ∃ v2_ : Value, e = .returned (.agg #[.int .i64 r1, .int .i64 r2, v2_]) ∧ Kd.R (Kd.int .i64) 3 w' w.heap.size (fun _ => True) v2_ r3 ∧ Below w.heap.size w w' := by
 have n1 := Try.underlying95
 have o1 := Try.underlying76
 have g0 := zK b0
 have i0 := zK c0
 clear b0 c0
 have HB := zK (Below.refl w.heap.size w)
 have H : ((laws_toIntS.f k q).bind fun J => (some (x, y, J))) = some (r1, r2, r3) := h
 clear h
 replace H := z6 H
 obtain ⟨J, m0, H⟩ := H
 have A2 := zK m0
 clear m0
 simp only [Option.some.injEq, Prod.mk.injEq] at H
 obtain ⟨rfl, rfl, rfl⟩ := H
 go_enter Try.func77, Try.ntmps77
 go_wp2_with (first | ((with_reducible refine gd 1 rfl ?_); refine zJ 1 #[.int .i64 x, .int .i64 y, .slice E q.length I] 95 ?_; intro e1 hg w3 hbox hb; have z := z8 hb; have A := zK (hbox); have B := z9 hg; have D := z9 hg; revert z A B D; clear HB; intro HB a f1 g1; clear hb hbox hg) | ((with_reducible refine gd 2 rfl ?_); refine zJ 2 #[.int .i64 0, .int .i64 0, .slice none 0 0] 76 ?_; intro j0 hg w4 hbox hb; have z := z7 a hb; have A := z8 hb; have B := zK (hbox); have D := z9 hg; have L := z9 hg; have e0 := zHH hg a; have f0 := zGG hg a; revert z A B D L e0 f0; clear a HB; intro a HB l i1 j1 M O; clear hb hbox hg) | ((with_reducible refine gd 3 rfl ?_); refine zJ 3 #[.int .i64 0, .int .i64 0, .slice none 0 0] 76 ?_; intro l0 hg w5 hbox hb; have z := z7 a hb; have A := z7 l hb; have B := z8 hb; have D := zK (hbox); have L := z9 hg; have e0 := z9 hg; have f0 := zHH hg a; have R0 := zGG hg a; have S0 := zHH hg l; have T0 := zGG hg l; revert z A B D L e0 f0 R0 S0 T0; clear a l HB; intro a l HB u l1 m1 T U X a0; clear hb hbox hg; have q1 := M.out; have s1 := O.out; have t1 := T.out; have x1 := U.out; obtain ⟨U0, V0, X0, a1, b1, c1⟩ := zc3 a; have y1 := a0.out; have A1 := X.out; obtain ⟨q0, s0, t0, x0, y0, A0⟩ := zc3 u) | ((with_reducible refine gc 23 rfl ?_); refine zF 12 Try.func23 #[.slice E q.length I] rfl zL ?_; refine (laws_toIntS.calls k _ _ q J _ (z4 g0.out zB) i0.out A2.out).mono ?_; rintro e B1 ⟨v281, rfl, d1, hb⟩; refine ⟨_, rfl, ?_⟩; have z := zK (Kd.R_lower d1 (zz zB)); have A := zK (zg (zV a) hb); have B := zK (zg (zV l) hb); have D := zK (zg (g := l0) (o := .cells #[.int .i64 x, .int .i64 y, .slice none 0 0] 76 (0, 0)) (zW u) hb); have L := z8 hb; revert z A B D L; clear a l u HB; intro d0 a l u HB; obtain ⟨n0, o0, p0⟩ := Kd.R_slice d0.out; subst p0; obtain ⟨B0, C0, D0, E0, F0, G0⟩ := zc3 u; obtain ⟨I0, J0, L0, M0, N0, O0⟩ := zc3 l))
 refine bodyPost_ret (results_cell_row rfl _ _ j0 76 #[.int .i64 x, .int .i64 y, .slice n0 J.length o0] (0, 0) _ rfl (zW l) Try.underlying76 rfl (by kernel_rfl)) rfl ?_
 exact ⟨_, zE, Kd.R_mono (zlR (Kd.R_types (Kd.R_types d0.out u.out (by decide)) l.out (by decide))) (fun _ hk => trivial), zB⟩
def laws_toAccessS.l0 : Nat → List (S95) → List (S76) → Int → Option ((List (S76)))
 | 0, _, _, _ => none
 | k + 1, q, u, l => if l < (q.length : Int) then (if 0 ≤ l then ((laws_toAccess.f k ((rd_T95 q l).f0) ((rd_T95 q l).f1) ((rd_T95 q l).f2)).bind fun a => (if l < (u.length : Int) then (laws_toAccessS.l0 k q (u.set (l : Int).toNat (⟨a.1, a.2.1, a.2.2⟩ : S76)) (wrap64 (l + 1))) else (none))) else (none)) else (some u)
def laws_toAccessS.f (k : Nat) (a : List (S95)) : Option ((List (S76))) := if 0 ≤ (a.length : Int) then (if ((a.length : Int) : Int).toNat ≤ 7036874417766 then (laws_toAccessS.l0 k a (List.replicate ((a.length : Int) : Int).toNat z76) 0) else (none)) else (none)
theorem laws_toAccessS.calls (k) (A0) (c0) (u : List (S95)) (r : List (S76)) (w) (N0 : Kd.C k95 w A0 u.length u) (O0 : u.length ≤ c0) (h : laws_toAccessS.f k u = some r) :
 Calls Try.prog 76 #[.slice A0 u.length c0] w fun e w' => ∃ v0_ : Value, e = .returned (v0_) ∧ Kd.S k76 76 w' w.heap.size (fun _ => True) v0_ r ∧ Below w.heap.size w w' := by
 have p1 := Try.underlying95
 have q1 := Try.underlying76
 have i1 := zK N0
 have y1 := zK O0
 clear N0 O0
 have HB := zK (Below.refl w.heap.size w)
 have H : (if 0 ≤ (u.length : Int) then (if ((u.length : Int) : Int).toNat ≤ 7036874417766 then (laws_toAccessS.l0 k u (List.replicate ((u.length : Int) : Int).toNat z76) 0) else (none)) else (none)) = some r := h
 clear h
 by_cases c2 : 0 ≤ (u.length : Int)
 rotate_left
 · rw [if_neg c2] at H
   exact absurd H (by simp)
 rw [if_pos c2] at H
 have U0 := eq_true c2
 have V0 := z1 c2
 clear c2
 by_cases c3 : ((u.length : Int) : Int).toNat ≤ 7036874417766
 rotate_left
 · rw [if_neg c3] at H
   exact absurd H (by simp)
 rw [if_pos c3] at H
 have X0 := eq_true c3
 have a1 := z1 c3
 clear c3
 obtain ⟨q0, A⟩ : ∃ y_ : List (S76), y_ = (List.replicate ((u.length : Int) : Int).toNat z76) := ⟨_, rfl⟩
 replace H : (laws_toAccessS.l0 k u q0 0) = some r := by first | (rw [A]; with_reducible exact H) | (have I := (Option.bind_some _ _).symm.trans H; rw [A]; with_reducible exact I) | (have I := (Option.bind_some _ _).symm.trans H; with_reducible exact I) | with_reducible exact H | (rw [A]; exact H) | exact H
 have Ny283 := zK A
 clear A
 have H' := zK H
 clear H
 go_enter Try.func76, Try.ntmps76
 go_wp2_with (first | ((with_reducible refine gd 7 rfl ?_); refine Kd.S_make k76 _ 76 rfl (N := 7) rfl 74 _ _ rfl (u.length : Int) rfl rfl Try.underlying74 (.agg #[(.int .i64 0), (.int .i64 0), (.slice none 0 0)]) 40 info76 rfl (by decide) (by omega) z76 (ok := fun _ => True) (okp := fun _ => True) (k76_mkM _ _ _ z76 (Kd.R_nil _ _ _ _ _)) (fun _ hk => hk) trivial (z3) (Nat.le_trans (Nat.mul_le_mul_right _ (z3 : (u.length : Int).toNat ≤ 7036874417766)) (by omega)) (Below.refl _ _) (Nat.le_refl _) ?_; intro v284 w4 a0 hb hg_ hnew_; clear hg_ hnew_; (first | rw [← Ny283.out] at a0 | (simp only [Int.reduceToNat] at a0; rw [← Ny283.out] at a0)); have b0 := zK (Kd.S_lower a0 (zz zB)); have d0 := z8 hb; revert b0 d0; clear HB; intro J0 HB; clear hb a0))
 go_loopg [4] k (fun kq v4 w' => ∃ (q : List (S76)) (a : Int), v4 = .int .i64 a ∧ Aside0 (laws_toAccessS.l0 kq u q a = some r) ∧ Aside0 (kq ≤ k) ∧ Aside0 (Kd.S k76 76 w' w.heap.size (fun _ => True) v284 q) ∧ Aside0 (Below w.heap.size w w'))
 case atStart => exact ⟨(q0), (0), zR, H', ⟨Nat.le_refl _⟩, ⟨zkS J0⟩, ⟨zB⟩⟩
 clear H'
 try clear c2
 try clear U0
 try clear V0
 try clear p2
 try clear c3
 try clear X0
 try clear a1
 obtain ⟨q, a, rfl, HA, R0, l, HB⟩ := hrel
 rcases gk with _ | k1
 · exact absurd HA.out (by simp [laws_toAccessS.l0])
 have H := HA.out
 clear HA
 simp only [laws_toAccessS.l0] at H
 by_cases c6 : a < (u.length : Int)
 rotate_left
 · rw [if_neg c6] at H
   have b1 := z2 c6
   clear c6
   obtain rfl := z5 H
   go_wp2
   go_ret
   exact ⟨_, zE, zkS l, zB⟩
 rw [if_pos c6] at H
 have b1 := z1 c6
 clear c6
 by_cases c7 : 0 ≤ a
 rotate_left
 · rw [if_neg c7] at H
   exact absurd H (by simp)
 rw [if_pos c7] at H
 have s1 := z1 c7
 clear c7
 replace H := z6 H
 obtain ⟨⟨y, z, x⟩, S0, H⟩ := H
 replace H : (if a < (q.length : Int) then (laws_toAccessS.l0 k1 u (q.set (a : Int).toNat (⟨y, z, x⟩ : S76)) (wrap64 (a + 1))) else (none)) = some r := H
 have A8 := zK S0
 clear S0
 by_cases c9 : a < (q.length : Int)
 rotate_left
 · rw [if_neg c9] at H
   exact absurd H (by simp)
 rw [if_pos c9] at H
 have x1 := z1 c9
 clear c9
 obtain ⟨e0, B⟩ : ∃ y_ : List (S76), y_ = (q.set (a : Int).toNat (⟨y, z, x⟩ : S76)) := ⟨_, rfl⟩
 replace H : (laws_toAccessS.l0 k1 u e0 (wrap64 (a + 1))) = some r := by first | (rw [B]; with_reducible exact H) | (have I := (Option.bind_some _ _).symm.trans H; rw [B]; with_reducible exact I) | (have I := (Option.bind_some _ _).symm.trans H; with_reducible exact I) | with_reducible exact H | (rw [B]; exact H) | exact H
 have Ny292 := zK B
 clear B
 have H' := zK H
 clear H
 have g0 : 0 ≤ (a : Int) := z3
 have i0 : a < (u.length : Int) := z3
 obtain ⟨o1, s0, t0, c1, J, L, M, O, T⟩ := at_T95 i1.out a g0 i0
 cases c1
 (try replace J := zX HB J)
 (try replace L := zX HB L)
 (try replace M := zX HB M)
 have o0 := zK T
 have p0 := zK O
 clear T O
 replace g0 := eq_true g0
 replace i0 := eq_true i0
 go_wp2_with (first | ((with_reducible refine gc 77 rfl ?_); refine zF 20 Try.func77 #[.agg #[.int .i64 ((rd_T95 u a).f0), .int .i64 ((rd_T95 u a).f1), .slice s0 ((rd_T95 u a).f2).length t0]] rfl zL ?_; refine (laws_toAccess.calls k1 ((rd_T95 u a).f0) ((rd_T95 u a).f1) _ _ ((rd_T95 u a).f2) y z x _ (zS o0) p0.out A8.out).mono ?_; rintro e D ⟨v290, rfl, T0, hb⟩; refine ⟨_, rfl, ?_⟩; have b0 := zK (Kd.S_elder' (zkS l) (Kd.R_base T0) hb); have d0 := zK (Kd.R_lower T0 (zz zB)); have j1 := z8 hb; revert b0 d0 j1; clear l HB; intro l E HB; have x0 : 0 ≤ (a : Int) := z3; have y0 : (a : Int) < ((q.length : Int) : Int) := z3; obtain ⟨go10, B0, C0, D0, gl10, cl10, HG10⟩ := Kd.S_form l.out (by omega); (first | cases C0 | (injection C0 with ea_ en_ ec_; (first | subst ea_ | (injection ea_ with ea_; subst ea_)); subst ec_; clear en_)); have GB10 := zK D0; have GG10 := zK HG10; clear D0 gl10 HG10; obtain ⟨_, ce10, hcl10, hM10, hcc10, hfr10, _, _⟩ := Kd.S_elem l.out z76 (a : Int) x0 y0; obtain ⟨ve10_2, rfl, ge10_2⟩ := k76_openM hM10; have l1 : D.cell? ⟨go10, (a : Int).toNat * 3, none⟩ = some (.int .i64 ((rd_T76 q a).f0)) := hcc10 0 _ rfl; have m1 : D.cell? ⟨go10, (a : Int).toNat * 3 + 1, none⟩ = some (.int .i64 ((rd_T76 q a).f1)) := hcc10 1 _ rfl; have n1 : D.cell? ⟨go10, (a : Int).toNat * 3 + 2, none⟩ = some (ve10_2) := hcc10 2 _ rfl; have hf10_0 : D.frozen? ⟨go10, (a : Int).toNat * 3, none⟩ = false := hfr10 0; have hf10_1 : D.frozen? ⟨go10, (a : Int).toNat * 3 + 1, none⟩ = false := hfr10 1; have hf10_2 : D.frozen? ⟨go10, (a : Int).toNat * 3 + 2, none⟩ = false := hfr10 2; clear hcl10 hcc10 hfr10 hM10; replace x0 := eq_true x0; replace y0 := eq_true y0; obtain ⟨U, X, d1⟩ := Kd.R_slice E.out; subst d1; have n_ := zK (Kd.S_mono (ok' := (fun k_ => some k_ ≠ (.slice U x.length X : Value).ownBlock)) l.out (fun k_ hk => hk.2)); clear l; have l := n_; clear n_; have HX13 := zK (show Kd.S k76 76 D w.heap.size (fun k_ => ((fun _ => True)) k_ ∧ ¬ ((fun k_ => some k_ = (.slice U x.length X : Value).ownBlock)) k_) (.slice (some ⟨go10, 0, none⟩) q.length B0) q from (Kd.S_mono (zlS l.out) (fun k_ hk => ⟨trivial, fun e_ => hk e_⟩))); obtain ⟨oki13, ce13, hcl13, hM13, hcc13, hfr13, hoki13, hH13⟩ := Kd.S_elem HX13.out z76 (a : Int) (z3) (by have h_ : (a : Int) < ((q.length : Int) : Int) := z3; first | exact h_ | (have e_ := (Kd.S_reads' l.out).1; omega) | simpa using h_); obtain ⟨ve13_2, rfl, ge13_2⟩ := k76_openM hM13; have HP13 := Kd.S_seg hH13 (z3) (by have h_ : (a : Int) < ((q.length : Int) : Int) := z3; first | exact h_ | (have e_ := (Kd.S_reads' l.out).1; omega) | simpa using h_) (seg := [.int .i64 y, .int .i64 z, .slice U x.length X]) (j := 0) (show 3 ≤ 3 from by decide) (x' := (⟨y, z, x⟩ : S76)) (k76_mkM _ _ _ (⟨y, z, x⟩ : S76) (Kd.R_mono (Kd.R_tight rfl (Kd.R_mono (ok' := fun k_ => ((fun _ => True)) k_ ∧ k_ ≠ go10) (Kd.R_apart' (E.out) (Kd.S_typed l.out) (by decide)) (fun k_ hk => ⟨trivial, fun e_ => (hk.2) (by rw [e_]; rfl)⟩))) (fun _ h_ => Or.inr (h_)))) (fun _ hk => hk) (fun k_ hk_ => ((Kd.R_mono (ok' := fun k_ => ((fun _ => True)) k_ ∧ k_ ≠ go10) (Kd.R_apart' (E.out) (Kd.S_typed l.out) (by decide)) (fun k_ hk => ⟨trivial, fun e_ => (hk.2) (by rw [e_]; rfl)⟩))).1 k_ hk_.symm); have E0 := hcc13 0 _ rfl; (try simp only [show (k76).sz = 3 from rfl, Nat.mul_one, Nat.add_zero] at E0); have hf13_0 := hfr13 0; (try simp only [show (k76).sz = 3 from rfl, Nat.mul_one, Nat.add_zero] at hf13_0); have F0 := hcc13 1 _ rfl; (try simp only [show (k76).sz = 3 from rfl, Nat.mul_one, Nat.add_zero] at F0); have hf13_1 := hfr13 1; (try simp only [show (k76).sz = 3 from rfl, Nat.mul_one, Nat.add_zero] at hf13_1); have G0 := hcc13 2 _ rfl; (try simp only [show (k76).sz = 3 from rfl, Nat.mul_one, Nat.add_zero] at G0); have hf13_2 := hfr13 2; (try simp only [show (k76).sz = 3 from rfl, Nat.mul_one, Nat.add_zero] at hf13_2); clear hcl13 hcc13 hfr13 hM13 hoki13 hH13) | ((with_reducible refine gate_store (t := 76) (p := 21) rfl ?_); refine store_event (t := 76) (p := 21) (v := ?vo_w14) (w1 := (((D.setCell ⟨go10, (a : Int).toNat * 3, none⟩ (.int .i64 y)).setCell ⟨go10, (a : Int).toNat * 3 + 1, none⟩ (.int .i64 z)).setCell ⟨go10, (a : Int).toNat * 3 + 2, none⟩ (.slice U x.length X))) ?hg ?ho ?hn ?hr ?_; (case ho => rfl); (case hg => rfl); (case hn => rfl); (case hr => first | (go_simp; done) | (go_simp; rfl)); intro I0 hw; have hg : D.grownBy I0 (some go10) := (by rw [hw]; exact HP13.2); have hp_ : Kd.S k76 76 I0 w.heap.size (fun _ => True) (.slice (some ⟨go10, 0, none⟩) q.length B0) e0 := (by rw [hw, Ny292.out]; exact HP13.1); clear HP13; have b0 := zK (hp_); have d0 := zK ((by rw [hw]; exact zs (zs (zs (HB.out) GB10.out) GB10.out) GB10.out : Below w.heap.size w I0)); revert b0 d0; clear l HB E; intro l HB; clear hg hw hp_))
 go_roundg k1
 case measure => have := R0.out; omega
 case rel => exact ⟨(e0), (wrap64 (a + 1)), zR, H', ⟨by have := R0.out; omega⟩, ⟨zkS l⟩, ⟨zB⟩⟩
def laws_toCalc.f (a : Int) (l : Int) (q : Int) : Option (Int × Int × Int) := some (a, l, q)
theorem laws_toCalc.calls (q) (u) (x) (r1) (r2) (r3) (w) (h : laws_toCalc.f q u x = some (r1, r2, r3)) :
 Calls Try.prog 83 #[.agg #[.int .i64 q, .int .i64 u, .int .i64 x]] w fun e w' => e = .returned (.agg #[.int .i64 r1, .int .i64 r2, .int .i64 r3]) ∧ Below w.heap.size w w' := by
 have D0 := Try.underlying124
 have E0 := Try.underlying122
 have HB := zK (Below.refl w.heap.size w)
 have H : (some (q, u, x)) = some (r1, r2, r3) := h
 clear h
 simp only [Option.some.injEq, Prod.mk.injEq] at H
 obtain ⟨rfl, rfl, rfl⟩ := H
 go_enter Try.func83, Try.ntmps83
 go_wp2_with (first | ((with_reducible refine gd 1 rfl ?_); refine zJ 1 #[.int .i64 q, .int .i64 u, .int .i64 x] 124 ?_; intro F0 hg w2 hbox hb; have y := z8 hb; have z := zK (hbox); have A := z9 hg; have B := z9 hg; revert y z A B; clear HB; intro HB a G0 I0; clear hb hbox hg) | ((with_reducible refine gd 2 rfl ?_); refine zJ 2 #[.int .i64 0, .int .i64 0, .int .i64 0] 122 ?_; intro X hg w3 hbox hb; have y := z7 a hb; have z := z8 hb; have A := zK (hbox); have B := z9 hg; have O := z9 hg; have T := zHH hg a; have U := zGG hg a; revert y z A B O T U; clear a HB; intro a HB l J0 L0 D E; clear hb hbox hg) | ((with_reducible refine gd 3 rfl ?_); refine zJ 3 #[.int .i64 0, .int .i64 0, .int .i64 0] 122 ?_; intro M0 hg w4 hbox hb; have y := z7 a hb; have z := z7 l hb; have A := z8 hb; have B := zK (hbox); have O := z9 hg; have T := z9 hg; have U := zHH hg a; have i0 := zGG hg a; have j0 := zHH hg l; have l0 := zGG hg l; revert y z A B O T U i0 j0 l0; clear a l HB; intro a l HB a0 N0 O0 I J L M; clear hb hbox hg; have R0 := D.out; have S0 := E.out; have T0 := I.out; have U0 := J.out; obtain ⟨m0, n0, o0, p0, q0, s0⟩ := zc3 a; have V0 := M.out; have X0 := L.out; obtain ⟨t0, x0, y0, A0, B0, C0⟩ := zc3 a0; obtain ⟨b0, c0, d0, e0, f0, g0⟩ := zc3 l))
 refine bodyPost_ret (results_cell_row rfl _ _ X 122 #[.int .i64 q, .int .i64 u, .int .i64 x] (0, 0) _ rfl (zW l) Try.underlying122 rfl (by kernel_rfl)) rfl ?_
 exact ⟨zE, zB⟩
def laws_toCalcS.l0 : Nat → List (S124) → List (S122) → Int → Option ((List (S122)))
 | 0, _, _, _ => none
 | k + 1, q, u, l => if l < (q.length : Int) then (if 0 ≤ l then ((laws_toCalc.f ((rd_T124 q l).f0) ((rd_T124 q l).f1) ((rd_T124 q l).f2)).bind fun a => (if l < (u.length : Int) then (laws_toCalcS.l0 k q (u.set (l : Int).toNat (⟨a.1, a.2.1, a.2.2⟩ : S122)) (wrap64 (l + 1))) else (none))) else (none)) else (some u)
def laws_toCalcS.f (k : Nat) (a : List (S124)) : Option ((List (S122))) := if 0 ≤ (a.length : Int) then (if ((a.length : Int) : Int).toNat ≤ 11728124029610 then (laws_toCalcS.l0 k a (List.replicate ((a.length : Int) : Int).toNat z122) 0) else (none)) else (none)
theorem laws_toCalcS.calls (k) (A0) (c0) (q : List (S124)) (r : List (S122)) (w) (C0 : Kd.C k124 w A0 q.length q) (D0 : q.length ≤ c0) (h : laws_toCalcS.f k q = some r) :
 Calls Try.prog 78 #[.slice A0 q.length c0] w fun e w' => ∃ v0_ : Value, e = .returned (v0_) ∧ Kd.R k122 122 w' w.heap.size (fun _ => True) v0_ r ∧ Below w.heap.size w w' := by
 have X0 := Try.underlying124
 have a1 := Try.underlying122
 have S0 := zK C0
 have g1 := zK D0
 clear C0 D0
 have HB := zK (Below.refl w.heap.size w)
 have H : (if 0 ≤ (q.length : Int) then (if ((q.length : Int) : Int).toNat ≤ 11728124029610 then (laws_toCalcS.l0 k q (List.replicate ((q.length : Int) : Int).toNat z122) 0) else (none)) else (none)) = some r := h
 clear h
 by_cases c2 : 0 ≤ (q.length : Int)
 rotate_left
 · rw [if_neg c2] at H
   exact absurd H (by simp)
 rw [if_pos c2] at H
 have G0 := eq_true c2
 have I0 := z1 c2
 clear c2
 by_cases c3 : ((q.length : Int) : Int).toNat ≤ 11728124029610
 rotate_left
 · rw [if_neg c3] at H
   exact absurd H (by simp)
 rw [if_pos c3] at H
 have J0 := eq_true c3
 have L0 := z1 c3
 clear c3
 obtain ⟨g0, A⟩ : ∃ y_ : List (S122), y_ = (List.replicate ((q.length : Int) : Int).toNat z122) := ⟨_, rfl⟩
 replace H : (laws_toCalcS.l0 k q g0 0) = some r := by first | (rw [A]; with_reducible exact H) | (have E := (Option.bind_some _ _).symm.trans H; rw [A]; with_reducible exact E) | (have E := (Option.bind_some _ _).symm.trans H; with_reducible exact E) | with_reducible exact H | (rw [A]; exact H) | exact H
 have Ny296 := zK A
 clear A
 have H' := zK H
 clear H
 go_enter Try.func78, Try.ntmps78
 go_wp2_with (first | ((with_reducible refine gd 7 rfl ?_); refine Kd.R_make k122 _ 122 rfl (N := 7) rfl 77 _ _ rfl (q.length : Int) rfl rfl Try.underlying77 (.agg #[(.int .i64 0), (.int .i64 0), (.int .i64 0)]) 24 info122 rfl (by decide) (by omega) z122 (ok := fun _ => True) (okp := fun _ => True) (k122_mkM _ _ _ z122 ) (fun _ hk => hk) trivial (z3) (Nat.le_trans (Nat.mul_le_mul_right _ (z3 : (q.length : Int).toNat ≤ 11728124029610)) (by omega)) (Below.refl _ _) (Nat.le_refl _) ?_; intro v297 w4 M hb hg_ hnew_; clear hg_ hnew_; (first | rw [← Ny296.out] at M | (simp only [Int.reduceToNat] at M; rw [← Ny296.out] at M)); have O := zK (Kd.R_lower M (zz zB)); have T := z8 hb; revert O T; clear HB; intro x0 HB; clear hb M))
 go_loopg [4] k (fun kq v4 w' => ∃ (l : List (S122)) (a : Int), v4 = .int .i64 a ∧ Aside0 (laws_toCalcS.l0 kq q l a = some r) ∧ Aside0 (kq ≤ k) ∧ Aside0 (Kd.R k122 122 w' w.heap.size (fun _ => True) v297 l) ∧ Aside0 (Below w.heap.size w w'))
 case atStart => exact ⟨(g0), (0), zR, H', ⟨Nat.le_refl _⟩, ⟨zkR x0⟩, ⟨zB⟩⟩
 clear H'
 try clear c2
 try clear G0
 try clear I0
 try clear p2
 try clear c3
 try clear J0
 try clear L0
 obtain ⟨l, a, rfl, HA, E0, u, HB⟩ := hrel
 rcases gk with _ | k1
 · exact absurd HA.out (by simp [laws_toCalcS.l0])
 have H := HA.out
 clear HA
 simp only [laws_toCalcS.l0] at H
 by_cases c6 : a < (q.length : Int)
 rotate_left
 · rw [if_neg c6] at H
   have M0 := z2 c6
   clear c6
   obtain rfl := z5 H
   go_wp2
   go_ret
   exact ⟨_, zE, zkR u, zB⟩
 rw [if_pos c6] at H
 have M0 := z1 c6
 clear c6
 by_cases c7 : 0 ≤ a
 rotate_left
 · rw [if_neg c7] at H
   exact absurd H (by simp)
 rw [if_pos c7] at H
 have c1 := z1 c7
 clear c7
 replace H := z6 H
 obtain ⟨⟨x, y, z⟩, F0, H⟩ := H
 replace H : (if a < (l.length : Int) then (laws_toCalcS.l0 k1 q (l.set (a : Int).toNat (⟨x, y, z⟩ : S122)) (wrap64 (a + 1))) else (none)) = some r := H
 have A8 := zK F0
 clear F0
 by_cases c9 : a < (l.length : Int)
 rotate_left
 · rw [if_neg c9] at H
   exact absurd H (by simp)
 rw [if_pos c9] at H
 have e1 := z1 c9
 clear c9
 obtain ⟨U, B⟩ : ∃ y_ : List (S122), y_ = (l.set (a : Int).toNat (⟨x, y, z⟩ : S122)) := ⟨_, rfl⟩
 replace H : (laws_toCalcS.l0 k1 q U (wrap64 (a + 1))) = some r := by first | (rw [B]; with_reducible exact H) | (have E := (Option.bind_some _ _).symm.trans H; rw [B]; with_reducible exact E) | (have E := (Option.bind_some _ _).symm.trans H; with_reducible exact E) | with_reducible exact H | (rw [B]; exact H) | exact H
 have Ny303 := zK B
 clear B
 have H' := zK H
 clear H
 have X : 0 ≤ (a : Int) := z3
 have a0 : a < (q.length : Int) := z3
 obtain ⟨b1, N0, I, J, L⟩ := at_T124 S0.out a X a0
 cases N0
 (try replace I := zX HB I)
 (try replace J := zX HB J)
 (try replace L := zX HB L)
 replace X := eq_true X
 replace a0 := eq_true a0
 go_wp2_with (first | ((with_reducible refine gc 83 rfl ?_); refine zF 20 Try.func83 #[.agg #[.int .i64 ((rd_T124 q a).f0), .int .i64 ((rd_T124 q a).f1), .int .i64 ((rd_T124 q a).f2)]] rfl zL ?_; (with_reducible refine (laws_toCalc.calls ((rd_T124 q a).f0) ((rd_T124 q a).f1) ((rd_T124 q a).f2) x y z _ A8.out).mono ?_); rintro e D ⟨rfl, hb⟩; refine ⟨_, rfl, ?_⟩; have O := zK (Kd.R_below (zkR u) hb); have T := z8 hb; revert O T; clear u HB; intro u HB; have i0 : 0 ≤ (a : Int) := z3; have j0 : (a : Int) < ((l.length : Int) : Int) := z3; obtain ⟨go10, m0, n0, o0, gl10, cl10, HG10⟩ := Kd.R_form u.out (by omega); (first | cases n0 | (injection n0 with ea_ en_ ec_; (first | subst ea_ | (injection ea_ with ea_; subst ea_)); subst ec_; clear en_)); have GB10 := zK o0; have GG10 := zK HG10; clear o0 gl10 HG10; obtain ⟨ce10, hcl10, hM10, hcc10, hfr10⟩ := Kd.R_elem u.out z122 (a : Int) i0 j0; obtain rfl := k122_openM hM10; have T0 : D.cell? ⟨go10, (a : Int).toNat * 3, none⟩ = some (.int .i64 ((rd_T122 l a).f0)) := hcc10 0 _ rfl; have U0 : D.cell? ⟨go10, (a : Int).toNat * 3 + 1, none⟩ = some (.int .i64 ((rd_T122 l a).f1)) := hcc10 1 _ rfl; have V0 : D.cell? ⟨go10, (a : Int).toNat * 3 + 2, none⟩ = some (.int .i64 ((rd_T122 l a).f2)) := hcc10 2 _ rfl; have hf10_0 : D.frozen? ⟨go10, (a : Int).toNat * 3, none⟩ = false := hfr10 0; have hf10_1 : D.frozen? ⟨go10, (a : Int).toNat * 3 + 1, none⟩ = false := hfr10 1; have hf10_2 : D.frozen? ⟨go10, (a : Int).toNat * 3 + 2, none⟩ = false := hfr10 2; clear hcl10 hcc10 hfr10 hM10; replace i0 := eq_true i0; replace j0 := eq_true j0; have HX12 := zK (show Kd.R k122 122 D w.heap.size (fun _ => True) (.slice (some ⟨go10, 0, none⟩) l.length m0) l from (zkR u)); obtain ⟨ce12, hcl12, hM12, hcc12, hfr12⟩ := Kd.R_elem HX12.out z122 (a : Int) (z3) (by have h_ : (a : Int) < ((l.length : Int) : Int) := z3; first | exact h_ | (have e_ := (Kd.R_reads' u.out).1; omega) | simpa using h_); obtain rfl := k122_openM hM12; have HP12 := Kd.R_seg HX12.out (a : Int) (z3) (by have h_ : (a : Int) < ((l.length : Int) : Int) := z3; first | exact h_ | (have e_ := (Kd.R_reads' u.out).1; omega) | simpa using h_) (seg := [.int .i64 x, .int .i64 y, .int .i64 z]) (j := 0) hcl12 hcc12 (show 3 ≤ 3 from by decide) (x' := (⟨x, y, z⟩ : S122)) (k122_mkM _ _ _ (⟨x, y, z⟩ : S122) ) (fun _ hk => hk); have p0 := hcc12 0 _ rfl; (try simp only [show (k122).sz = 3 from rfl, Nat.mul_one, Nat.add_zero] at p0); have hf12_0 := hfr12 0; (try simp only [show (k122).sz = 3 from rfl, Nat.mul_one, Nat.add_zero] at hf12_0); have q0 := hcc12 1 _ rfl; (try simp only [show (k122).sz = 3 from rfl, Nat.mul_one, Nat.add_zero] at q0); have hf12_1 := hfr12 1; (try simp only [show (k122).sz = 3 from rfl, Nat.mul_one, Nat.add_zero] at hf12_1); have s0 := hcc12 2 _ rfl; (try simp only [show (k122).sz = 3 from rfl, Nat.mul_one, Nat.add_zero] at s0); have hf12_2 := hfr12 2; (try simp only [show (k122).sz = 3 from rfl, Nat.mul_one, Nat.add_zero] at hf12_2); clear hcl12 hcc12 hfr12 hM12) | ((with_reducible refine gate_store (t := 122) (p := 21) rfl ?_); refine store_event (t := 122) (p := 21) (v := ?vo_w13) (w1 := (((D.setCell ⟨go10, (a : Int).toNat * 3, none⟩ (.int .i64 x)).setCell ⟨go10, (a : Int).toNat * 3 + 1, none⟩ (.int .i64 y)).setCell ⟨go10, (a : Int).toNat * 3 + 2, none⟩ (.int .i64 z))) ?hg ?ho ?hn ?hr ?_; (case ho => rfl); (case hg => rfl); (case hn => rfl); (case hr => first | (go_simp; done) | (go_simp; rfl)); intro t0 hw; have hg : D.grownBy t0 (some go10) := (by rw [hw]; exact HP12.2); have hp_ : Kd.R k122 122 t0 w.heap.size (fun _ => True) (.slice (some ⟨go10, 0, none⟩) l.length m0) U := (by rw [hw, Ny303.out]; exact HP12.1); clear HP12; have O := zK (hp_); have T := zK ((by rw [hw]; exact zs (zs (zs (HB.out) GB10.out) GB10.out) GB10.out : Below w.heap.size w t0)); revert O T; clear u HB; intro u HB; clear hg hw hp_))
 go_roundg k1
 case measure => have := E0.out; omega
 case rel => exact ⟨(U), (wrap64 (a + 1)), zR, H', ⟨by have := E0.out; omega⟩, ⟨zkR u⟩, ⟨zB⟩⟩
def laws_toKernel.f (k : Nat) (l : List Int) (q : List (S95)) (u : Int) (x : Int) (y : List Int) (z : Bool) (A : List (S124)) : Option (List Int × (List (S76)) × Int × Int × List Int × Bool × (List (S122))) := (laws_toIntS.f k l).bind fun B => ((laws_toAccessS.f k q).bind fun D => ((laws_toAccess.f k u x y).bind fun a => ((laws_toCalcS.f k A).bind fun E => (some (B, D, a.1, a.2.1, a.2.2, z, E)))))
theorem laws_toKernel.calls (k) (f0) (g0) (E : List Int) (i0) (j0) (I : List (S95)) (b0) (c0) (l0) (m0) (J : List Int) (O : Bool) (n0) (o0) (y : List (S124)) (r1 : List Int) (r2 : List (S76)) (r3) (r4) (r5 : List Int) (r6 : Bool) (r7 : List (S122)) (w) (L0 : Kd.C (Kd.int .i64) w f0 E.length E) (M0 : E.length ≤ g0) (N0 : Kd.C k95 w i0 I.length I) (O0 : I.length ≤ j0) (R0 : Kd.C (Kd.int .i64) w l0 J.length J) (S0 : J.length ≤ m0) (T0 : Kd.C k124 w n0 y.length y) (U0 : y.length ≤ o0) (h : laws_toKernel.f k E I b0 c0 J O y = some (r1, r2, r3, r4, r5, r6, r7)) :
 Calls Try.prog 56 #[.agg #[.slice f0 E.length g0, .slice i0 I.length j0, .int .i64 b0, .int .i64 c0, .slice l0 J.length m0, .bool O, .slice n0 y.length o0]] w fun e w' => ∃ v0_ v1_ v4_ v6_ : Value, e = .returned (.agg #[v0_, v1_, .int .i64 r3, .int .i64 r4, v4_, .bool r6, v6_]) ∧ Kd.R (Kd.int .i64) 3 w' w.heap.size (fun k_ => some k_ ≠ (v4_ : Value).ownBlock) v0_ r1 ∧ Kd.S k76 76 w' w.heap.size (fun k_ => some k_ ≠ (v0_ : Value).ownBlock ∧ some k_ ≠ (v4_ : Value).ownBlock) v1_ r2 ∧ Kd.R (Kd.int .i64) 3 w' w.heap.size (fun k_ => some k_ ≠ (v0_ : Value).ownBlock) v4_ r5 ∧ Kd.R k122 122 w' w.heap.size (fun _ => True) v6_ r7 ∧ Below w.heap.size w w' := by
 have o5 := Try.underlying98
 have p5 := Try.underlying79
 have q5 := Try.underlying95
 have s5 := Try.underlying76
 have c1 := zK L0
 have d1 := zK M0
 clear L0 M0
 have e1 := zK N0
 have f1 := zK O0
 clear N0 O0
 have g1 := zK R0
 have i1 := zK S0
 clear R0 S0
 have j1 := zK T0
 have l1 := zK U0
 clear T0 U0
 have HB := zK (Below.refl w.heap.size w)
 have H : ((laws_toIntS.f k E).bind fun L => ((laws_toAccessS.f k I).bind fun T => ((laws_toAccess.f k b0 c0 J).bind fun p0 => ((laws_toCalcS.f k y).bind fun d0 => (some (L, T, p0.1, p0.2.1, p0.2.2, O, d0)))))) = some (r1, r2, r3, r4, r5, r6, r7) := h
 clear h
 replace H := z6 H
 obtain ⟨L, n1, H⟩ := H
 have A2 := zK n1
 clear n1
 replace H := z6 H
 obtain ⟨T, o1, H⟩ := H
 have A3 := zK o1
 clear o1
 replace H := z6 H
 obtain ⟨⟨q0, s0, t0⟩, p1, H⟩ := H
 replace H : ((laws_toCalcS.f k y).bind fun d0 => (some (L, T, q0, s0, t0, O, d0))) = some (r1, r2, r3, r4, r5, r6, r7) := H
 have A4 := zK p1
 clear p1
 replace H := z6 H
 obtain ⟨d0, q1, H⟩ := H
 have A5 := zK q1
 clear q1
 simp only [Option.some.injEq, Prod.mk.injEq] at H
 obtain ⟨rfl, rfl, rfl, rfl, rfl, rfl, rfl⟩ := H
 go_enter Try.func56, Try.ntmps56
 go_wp2_with (first | ((with_reducible refine gd 1 rfl ?_); refine zJ 1 #[.slice f0 E.length g0, .slice i0 I.length j0, .int .i64 b0, .int .i64 c0, .slice l0 J.length m0, .bool O, .slice n0 y.length o0] 98 ?_; intro b5 hg w6 hbox hb; have z := z8 hb; have A := zK (hbox); have B := z9 hg; have D := z9 hg; revert z A B D; clear HB; intro HB l c5 d5; clear hb hbox hg) | ((with_reducible refine gd 2 rfl ?_); refine zJ 2 #[.slice none 0 0, .slice none 0 0, .int .i64 0, .int .i64 0, .slice none 0 0, .bool false, .slice none 0 0] 79 ?_; intro m1 hg w7 hbox hb; have z := z7 l hb; have A := z8 hb; have B := zK (hbox); have D := z9 hg; have M := z9 hg; have U := zHH hg l; have e0 := zGG hg l; revert z A B D M U e0; clear l HB; intro l HB q e5 f5 B0 C0; clear hb hbox hg) | ((with_reducible refine gd 3 rfl ?_); refine zJ 3 #[.slice none 0 0, .slice none 0 0, .int .i64 0, .int .i64 0, .slice none 0 0, .bool false, .slice none 0 0] 79 ?_; intro x0 hg w8 hbox hb; have z := z7 l hb; have A := z7 q hb; have B := z8 hb; have D := zK (hbox); have M := z9 hg; have U := z9 hg; have e0 := zHH hg l; have X0 := zGG hg l; have X4 := zHH hg q; have a5 := zGG hg q; revert z A B D M U e0 X0 X4 a5; clear l q HB; intro l q HB a g5 i5 D0 E0 F0 G0; clear hb hbox hg; have C5 := B0.out; have D5 := C0.out; have j5 := D0.out; have l5 := E0.out; obtain ⟨C1, D1, E1, F1, G1, I1, J1, L1, M1, N1, O1, R1, S1, T1⟩ := zc7 l) | ((with_reducible refine gc 23 rfl ?_); refine zF 6 Try.func23 #[.slice f0 E.length g0] rfl zL ?_; refine (laws_toIntS.calls k _ _ E L _ (zS c1) d1.out A2.out).mono ?_; rintro e E5 ⟨v308, rfl, X, hb⟩; refine ⟨_, rfl, ?_⟩; have z := zK (Kd.R_lower X (zz zB)); have A := z7 l hb; have B := z7 q hb; have D := z7 a hb; have M := z8 hb; revert z A B D M; clear l q a HB; intro u l q a HB; obtain ⟨y0, A0, s1⟩ := Kd.R_slice u.out; subst s1; have m5 := G0.out; have n5 := F0.out; obtain ⟨U1, V1, X1, a2, b2, c2, d2, e2, f2, g2, i2, j2, l2, m2⟩ := zc7 a; obtain ⟨n2, o2, p2, q2, s2, t2, x2, y2, B2, C2, D2, E2, F2, G2⟩ := zc7 l) | ((with_reducible refine gc 76 rfl ?_); refine zF 10 Try.func76 #[.slice i0 I.length j0] rfl zL ?_; refine (laws_toAccessS.calls k _ _ I T _ (z4 e1.out zB) f1.out A3.out).mono ?_; rintro e F5 ⟨v311, rfl, X, hb⟩; refine ⟨_, rfl, ?_⟩; have z := zK (Kd.R_below (Kd.R_mono (zlR (Kd.R_types u.out a.out (by decide))) (fun _ h_ => h_.1)) hb); have A := zK (Kd.S_lower (Kd.S_new' X (Kd.R_lt (Kd.R_mono (zlR (Kd.R_types u.out a.out (by decide))) (fun _ h_ => h_.1)))) (zz zB)); have B := zK (zg (zV l) hb); have D := zK (zg (zV q) hb); have M := zK (zg (g := x0) (o := .cells #[.slice y0 L.length A0, .slice none 0 0, .int .i64 0, .int .i64 0, .slice none 0 0, .bool false, .slice none 0 0] 79 (0, 0)) (zW a) hb); have U := z8 hb; revert z A B D M U; clear u l q a HB; intro u x l q a HB; obtain ⟨I0, J0, t1⟩ := Kd.S_slice x.out; subst t1; obtain ⟨I2, J2, L2, M2, N2, O2, R2, T2, U2, V2, X2, a3, b3, c3⟩ := zc7 a; obtain ⟨d3, e3, f3, g3, i3, j3, l3, m3, n3, o3, p3, q3, s3, t3⟩ := zc7 l) | ((with_reducible refine gc 77 rfl ?_); refine zF 14 Try.func77 #[.agg #[.int .i64 b0, .int .i64 c0, .slice l0 J.length m0]] rfl zL ?_; refine (laws_toAccess.calls k b0 c0 _ _ J q0 s0 t0 _ (z4 g1.out zB) i1.out A4.out).mono ?_; rintro e G5 ⟨v316, rfl, X, hb⟩; refine ⟨_, rfl, ?_⟩; have z := zK (Kd.R_elder' (Kd.R_mono (zlR (Kd.R_types u.out a.out (by decide))) (fun _ h_ => h_.1)) (Kd.R_base X) hb); have A := zK (Kd.S_elder' (Kd.S_mono (zlS (Kd.S_types x.out a.out (by decide))) (fun _ h_ => h_.1)) (Kd.R_base X) hb); have B := zK (Kd.R_lower (Kd.R_new' X (Kd.R_lt (Kd.R_mono (zlR (Kd.R_types u.out a.out (by decide))) (fun _ h_ => h_.1)))) (zz zB)); have D := zK (zg (zV l) hb); have M := zK (zg (zV q) hb); have U := zK (zg (g := x0) (o := .cells #[.slice y0 L.length A0, .slice I0 T.length J0, .int .i64 0, .int .i64 0, .slice none 0 0, .bool false, .slice none 0 0] 79 (0, 0)) (zW a) hb); have e0 := z8 hb; revert z A B D M U e0; clear u x l q a HB; intro u x a0 l q a HB; obtain ⟨x3, y3, B3, C3, D3, E3, F3, G3, I3, J3, L3, M3, N3, O3⟩ := zc7 a; obtain ⟨a1, b1, x1⟩ := Kd.R_slice a0.out; subst x1; obtain ⟨R3, S3, T3, U3, V3, X3, a4, b4, c4, d4, e4, f4, g4, i4⟩ := zc7 l) | ((with_reducible refine gc 78 rfl ?_); refine zF 21 Try.func78 #[.slice n0 y.length o0] rfl zL ?_; refine (laws_toCalcS.calls k _ _ y d0 _ (z4 j1.out zB) l1.out A5.out).mono ?_; rintro e I5 ⟨v319, rfl, X, hb⟩; refine ⟨_, rfl, ?_⟩; have z := zK (Kd.R_below (Kd.R_mono (zlR (Kd.R_types u.out a.out (by decide))) (fun _ h_ => h_.1)) hb); have A := zK (Kd.S_below (Kd.S_mono (zlS (Kd.S_types x.out a.out (by decide))) (fun _ h_ => h_.1)) hb); have B := zK (Kd.R_below (Kd.R_mono (zlR (Kd.R_types a0.out a.out (by decide))) (fun _ h_ => h_.1)) hb); have D := zK (Kd.R_lower X (zz zB)); have M := zK (zg (zV l) hb); have U := zK (zg (zV q) hb); have e0 := zK (zg (g := x0) (o := .cells #[.slice y0 L.length A0, .slice I0 T.length J0, .int .i64 q0, .int .i64 s0, .slice a1 t0.length b1, .bool O, .slice none 0 0] 79 (0, 0)) (zW a) hb); have X0 := z8 hb; revert z A B D M U e0 X0; clear u x a0 l q a HB; intro u x a0 V0 l q a HB; obtain ⟨y1, A1, B1⟩ := Kd.R_slice V0.out; subst B1; obtain ⟨j4, l4, m4, n4, o4, p4, q4, s4, t4, x4, y4, B4, C4, D4⟩ := zc7 a; obtain ⟨E4, F4, G4, I4, J4, L4, M4, N4, O4, R4, S4, T4, U4, V4⟩ := zc7 q))
 refine bodyPost_ret (results_cell_row rfl _ _ m1 79 #[.slice y0 L.length A0, .slice I0 T.length J0, .int .i64 q0, .int .i64 s0, .slice a1 t0.length b1, .bool O, .slice y1 d0.length A1] (0, 0) _ rfl (zW q) Try.underlying79 rfl (by kernel_rfl)) rfl ?_
 exact ⟨_, _, _, _, zE, Kd.R_mono (zlR (Kd.R_types (Kd.R_types u.out a.out (by decide)) q.out (by decide))) (fun _ hk => hk.1.1.2), Kd.S_mono (zlS (Kd.S_types (Kd.S_types x.out a.out (by decide)) q.out (by decide))) (fun _ hk => ⟨hk.1.1.1.2, hk.1.1.2⟩), Kd.R_mono (zlR (Kd.R_types (Kd.R_types a0.out a.out (by decide)) q.out (by decide))) (fun _ hk => hk.1.1.2), Kd.R_mono (zlR (Kd.R_types (Kd.R_types V0.out a.out (by decide)) q.out (by decide))) (fun _ hk => trivial), zB⟩
def laws_toKernelS.l0 : Nat → List (S98) → List (S79) → Int → Option ((List (S79)))
 | 0, _, _, _ => none
 | k + 1, q, u, l => if l < (q.length : Int) then (if 0 ≤ l then ((laws_toKernel.f k ((rd_T98 q l).f0) ((rd_T98 q l).f1) ((rd_T98 q l).f2.f0) ((rd_T98 q l).f2.f1) ((rd_T98 q l).f2.f2) ((rd_T98 q l).f3) ((rd_T98 q l).f4)).bind fun a => (if l < (u.length : Int) then (laws_toKernelS.l0 k q (u.set (l : Int).toNat (⟨a.1, a.2.1, (⟨a.2.2.1, a.2.2.2.1, a.2.2.2.2.1⟩ : S76), a.2.2.2.2.2.1, a.2.2.2.2.2.2⟩ : S79)) (wrap64 (l + 1))) else (none))) else (none)) else (some u)
def laws_toKernelS.f (k : Nat) (a : List (S98)) : Option ((List (S79))) := if 0 ≤ (a.length : Int) then (if ((a.length : Int) : Int).toNat ≤ 2345624805922 then (laws_toKernelS.l0 k a (List.replicate ((a.length : Int) : Int).toNat z79) 0) else (none)) else (none)
theorem laws_toKernelS.calls (k) (A0) (c0) (q : List (S98)) (r : List (S79)) (w) (R1 : Kd.C k98 w A0 q.length q) (S1 : q.length ≤ c0) (h : laws_toKernelS.f k q = some r) :
 Calls Try.prog 31 #[.slice A0 q.length c0] w fun e w' => ∃ v0_ : Value, e = .returned (v0_) ∧ Kd.R k79 79 w' w.heap.size (fun _ => True) v0_ r ∧ Below w.heap.size w w' := by
 have N2 := Try.underlying98
 have O2 := Try.underlying79
 have x2 := zK R1
 have V2 := zK S1
 clear R1 S1
 have HB := zK (Below.refl w.heap.size w)
 have H : (if 0 ≤ (q.length : Int) then (if ((q.length : Int) : Int).toNat ≤ 2345624805922 then (laws_toKernelS.l0 k q (List.replicate ((q.length : Int) : Int).toNat z79) 0) else (none)) else (none)) = some r := h
 clear h
 by_cases c2 : 0 ≤ (q.length : Int)
 rotate_left
 · rw [if_neg c2] at H
   exact absurd H (by simp)
 rw [if_pos c2] at H
 have d2 := eq_true c2
 have e2 := z1 c2
 clear c2
 by_cases c3 : ((q.length : Int) : Int).toNat ≤ 2345624805922
 rotate_left
 · rw [if_neg c3] at H
   exact absurd H (by simp)
 rw [if_pos c3] at H
 have g2 := eq_true c3
 have i2 := z1 c3
 clear c3
 obtain ⟨i1, J⟩ : ∃ y_ : List (S79), y_ = (List.replicate ((q.length : Int) : Int).toNat z79) := ⟨_, rfl⟩
 replace H : (laws_toKernelS.l0 k q i1 0) = some r := by first | (rw [J]; with_reducible exact H) | (have M := (Option.bind_some _ _).symm.trans H; rw [J]; with_reducible exact M) | (have M := (Option.bind_some _ _).symm.trans H; with_reducible exact M) | with_reducible exact H | (rw [J]; exact H) | exact H
 have Ny321 := zK J
 clear J
 have H' := zK H
 clear H
 go_enter Try.func31, Try.ntmps31
 go_wp2_with (first | ((with_reducible refine gd 7 rfl ?_); refine Kd.R_make k79 _ 79 rfl (N := 7) rfl 32 _ _ rfl (q.length : Int) rfl rfl Try.underlying32 (.agg #[(.slice none 0 0), (.slice none 0 0), (.int .i64 0), (.int .i64 0), (.slice none 0 0), (.bool false), (.slice none 0 0)]) 120 info79 rfl (by decide) (by omega) z79 (ok := fun _ => True) (okp := fun _ => True) (k79_mkM _ _ _ z79 (Kd.R_nil _ _ _ _ _) (Kd.R_nil _ _ _ _ _) (Kd.R_nil _ _ _ _ _) (Kd.R_nil _ _ _ _ _)) (fun _ hk => hk) trivial (z3) (Nat.le_trans (Nat.mul_le_mul_right _ (z3 : (q.length : Int).toNat ≤ 2345624805922)) (by omega)) (Below.refl _ _) (Nat.le_refl _) ?_; intro v322 w4 y0 hb hg_ hnew_; clear hg_ hnew_; (first | rw [← Ny321.out] at y0 | (simp only [Int.reduceToNat] at y0; rw [← Ny321.out] at y0)); have B0 := zK (Kd.R_lower y0 (zz zB)); have C0 := z8 hb; revert B0 C0; clear HB; intro M1 HB; clear hb y0))
 go_loopg [4] k (fun kq v4 w' => ∃ (u : List (S79)) (a : Int), v4 = .int .i64 a ∧ Aside0 (laws_toKernelS.l0 kq q u a = some r) ∧ Aside0 (kq ≤ k) ∧ Aside0 (Kd.R k79 79 w' w.heap.size (fun _ => True) v322 u) ∧ Aside0 (Below w.heap.size w w'))
 case atStart => exact ⟨(i1), (0), zR, H', ⟨Nat.le_refl _⟩, ⟨zkR M1⟩, ⟨zB⟩⟩
 clear H'
 try clear c2
 try clear d2
 try clear e2
 try clear p2
 try clear c3
 try clear g2
 try clear i2
 obtain ⟨u, a, rfl, HA, T1, l, HB⟩ := hrel
 rcases gk with _ | k1
 · exact absurd HA.out (by simp [laws_toKernelS.l0])
 have H := HA.out
 clear HA
 simp only [laws_toKernelS.l0] at H
 by_cases c6 : a < (q.length : Int)
 rotate_left
 · rw [if_neg c6] at H
   have j2 := z2 c6
   clear c6
   obtain rfl := z5 H
   go_wp2
   go_ret
   exact ⟨_, zE, zkR l, zB⟩
 rw [if_pos c6] at H
 have j2 := z1 c6
 clear c6
 by_cases c7 : 0 ≤ a
 rotate_left
 · rw [if_neg c7] at H
   exact absurd H (by simp)
 rw [if_pos c7] at H
 have R2 := z1 c7
 clear c7
 replace H := z6 H
 obtain ⟨⟨y, z, D, E, A, I, B⟩, U1, H⟩ := H
 replace H : (if a < (u.length : Int) then (laws_toKernelS.l0 k1 q (u.set (a : Int).toNat (⟨y, z, (⟨D, E, A⟩ : S76), I, B⟩ : S79)) (wrap64 (a + 1))) else (none)) = some r := H
 have A8 := zK U1
 clear U1
 by_cases c9 : a < (u.length : Int)
 rotate_left
 · rw [if_neg c9] at H
   exact absurd H (by simp)
 rw [if_pos c9] at H
 have U2 := z1 c9
 clear c9
 obtain ⟨D0, L⟩ : ∃ y_ : List (S79), y_ = (u.set (a : Int).toNat (⟨y, z, (⟨D, E, A⟩ : S76), I, B⟩ : S79)) := ⟨_, rfl⟩
 replace H : (laws_toKernelS.l0 k1 q D0 (wrap64 (a + 1))) = some r := by first | (rw [L]; with_reducible exact H) | (have M := (Option.bind_some _ _).symm.trans H; rw [L]; with_reducible exact M) | (have M := (Option.bind_some _ _).symm.trans H; with_reducible exact M) | with_reducible exact H | (rw [L]; exact H) | exact H
 have Ny340 := zK L
 clear L
 have H' := zK H
 clear H
 have E0 : 0 ≤ (a : Int) := z3
 have F0 : a < (q.length : Int) := z3
 obtain ⟨M2, j1, l1, m1, n1, o1, p1, q1, s1, l2, O, T, U, X, a0, b0, d0, e0, g0, i0, j0, m0, n0, o0, p0⟩ := at_T98 x2.out a E0 F0
 cases l2
 (try replace O := zX HB O)
 (try replace T := zX HB T)
 (try replace U := zX HB U)
 (try replace X := zX HB X)
 (try replace a0 := zX HB a0)
 (try replace b0 := zX HB b0)
 (try replace d0 := zX HB d0)
 have V0 := zK g0
 have X0 := zK e0
 clear g0 e0
 have a1 := zK j0
 have b1 := zK i0
 clear j0 i0
 have c1 := zK n0
 have d1 := zK m0
 clear n0 m0
 have e1 := zK p0
 have g1 := zK o0
 clear p0 o0
 replace E0 := eq_true E0
 replace F0 := eq_true F0
 go_wp2_with (first | ((with_reducible refine gc 56 rfl ?_); refine zF 20 Try.func56 #[.agg #[.slice j1 ((rd_T98 q a).f0).length l1, .slice m1 ((rd_T98 q a).f1).length n1, .int .i64 ((rd_T98 q a).f2.f0), .int .i64 ((rd_T98 q a).f2.f1), .slice o1 ((rd_T98 q a).f2.f2).length p1, .bool ((rd_T98 q a).f3), .slice q1 ((rd_T98 q a).f4).length s1]] rfl zL ?_; refine (laws_toKernel.calls k1 _ _ ((rd_T98 q a).f0) _ _ ((rd_T98 q a).f1) ((rd_T98 q a).f2.f0) ((rd_T98 q a).f2.f1) _ _ ((rd_T98 q a).f2.f2) ((rd_T98 q a).f3) _ _ ((rd_T98 q a).f4) y z D E A I B _ (zS V0) X0.out (zS a1) b1.out (zS c1) d1.out (zS e1) g1.out A8.out).mono ?_; rintro e x ⟨v326, v329, v334, v338, rfl, V1, X1, a2, b2, hb⟩; refine ⟨_, rfl, ?_⟩; have B0 := zK (Kd.R_mono (Kd.R_told (Kd.R_told (Kd.R_told (Kd.R_told (Kd.R_old (zkR l) hb) (Kd.R_base V1)) (Kd.S_base X1)) (Kd.R_base a2)) (Kd.R_base b2)) (fun _ h_ => h_.1)); have C0 := zK (Kd.R_lower V1 (zz zB)); have y2 := zK (Kd.S_lower X1 (zz zB)); have A2 := zK (Kd.R_lower a2 (zz zB)); have B2 := zK (Kd.R_lower b2 (zz zB)); have C2 := z8 hb; revert B0 C0 y2 A2 B2 C2; clear l HB; intro l q0 s0 t0 x0 HB; have t1 : 0 ≤ (a : Int) := z3; have x1 : (a : Int) < ((u.length : Int) : Int) := z3; obtain ⟨go10, y1, A1, B1, gl10, cl10, HG10⟩ := Kd.R_form l.out (by omega); (first | cases A1 | (injection A1 with ea_ en_ ec_; (first | subst ea_ | (injection ea_ with ea_; subst ea_)); subst ec_; clear en_)); have GB10 := zK B1; have GG10 := zK HG10; clear B1 gl10 HG10; obtain ⟨ce10, hcl10, hM10, hcc10, hfr10⟩ := Kd.R_elem l.out z79 (a : Int) t1 x1; obtain ⟨ve10_0, ve10_1, ve10_4, ve10_6, rfl, ge10_0, ge10_1, ge10_4, ge10_6⟩ := k79_openM hM10; have D2 : x.cell? ⟨go10, (a : Int).toNat * 7, none⟩ = some (ve10_0) := hcc10 0 _ rfl; have E2 : x.cell? ⟨go10, (a : Int).toNat * 7 + 1, none⟩ = some (ve10_1) := hcc10 1 _ rfl; have F2 : x.cell? ⟨go10, (a : Int).toNat * 7 + 2, none⟩ = some (.int .i64 ((rd_T79 u a).f2.f0)) := hcc10 2 _ rfl; have G2 : x.cell? ⟨go10, (a : Int).toNat * 7 + 3, none⟩ = some (.int .i64 ((rd_T79 u a).f2.f1)) := hcc10 3 _ rfl; have I2 : x.cell? ⟨go10, (a : Int).toNat * 7 + 4, none⟩ = some (ve10_4) := hcc10 4 _ rfl; have J2 : x.cell? ⟨go10, (a : Int).toNat * 7 + 5, none⟩ = some (.bool ((rd_T79 u a).f3)) := hcc10 5 _ rfl; have L2 : x.cell? ⟨go10, (a : Int).toNat * 7 + 6, none⟩ = some (ve10_6) := hcc10 6 _ rfl; have hf10_0 : x.frozen? ⟨go10, (a : Int).toNat * 7, none⟩ = false := hfr10 0; have hf10_1 : x.frozen? ⟨go10, (a : Int).toNat * 7 + 1, none⟩ = false := hfr10 1; have hf10_2 : x.frozen? ⟨go10, (a : Int).toNat * 7 + 2, none⟩ = false := hfr10 2; have hf10_3 : x.frozen? ⟨go10, (a : Int).toNat * 7 + 3, none⟩ = false := hfr10 3; have hf10_4 : x.frozen? ⟨go10, (a : Int).toNat * 7 + 4, none⟩ = false := hfr10 4; have hf10_5 : x.frozen? ⟨go10, (a : Int).toNat * 7 + 5, none⟩ = false := hfr10 5; have hf10_6 : x.frozen? ⟨go10, (a : Int).toNat * 7 + 6, none⟩ = false := hfr10 6; clear hcl10 hcc10 hfr10 hM10; replace t1 := eq_true t1; replace x1 := eq_true x1; obtain ⟨G0, I0, m2⟩ := Kd.R_slice x0.out; subst m2; obtain ⟨J0, L0, n2⟩ := Kd.R_slice t0.out; subst n2; obtain ⟨M0, N0, o2⟩ := Kd.S_slice s0.out; subst o2; obtain ⟨O0, R0, q2⟩ := Kd.R_slice q0.out; subst q2; have n_ := zK (Kd.R_mono (ok' := (fun k_ => some k_ ≠ (.slice O0 y.length R0 : Value).ownBlock ∧ some k_ ≠ (.slice M0 z.length N0 : Value).ownBlock ∧ some k_ ≠ (.slice J0 A.length L0 : Value).ownBlock ∧ some k_ ≠ (.slice G0 B.length I0 : Value).ownBlock)) l.out (fun k_ hk => ⟨hk.1.1.1.2, ⟨hk.1.1.2, ⟨hk.1.2, hk.2⟩⟩⟩)); clear l; have l := n_; clear n_; have HX16 := zK (show Kd.R k79 79 x w.heap.size (fun _ => True) (.slice (some ⟨go10, 0, none⟩) u.length y1) u from (Kd.R_mono (zlR l.out) (fun _ hk => trivial))); obtain ⟨ce16, hcl16, hM16, hcc16, hfr16⟩ := Kd.R_elem HX16.out z79 (a : Int) (z3) (by have h_ : (a : Int) < ((u.length : Int) : Int) := z3; first | exact h_ | (have e_ := (Kd.R_reads' l.out).1; omega) | simpa using h_); obtain ⟨ve16_0, ve16_1, ve16_4, ve16_6, rfl, ge16_0, ge16_1, ge16_4, ge16_6⟩ := k79_openM hM16; have HP16 := Kd.R_seg HX16.out (a : Int) (z3) (by have h_ : (a : Int) < ((u.length : Int) : Int) := z3; first | exact h_ | (have e_ := (Kd.R_reads' l.out).1; omega) | simpa using h_) (seg := [.slice O0 y.length R0, .slice M0 z.length N0, .int .i64 D, .int .i64 E, .slice J0 A.length L0, .bool I, .slice G0 B.length I0]) (j := 0) hcl16 hcc16 (show 7 ≤ 7 from by decide) (x' := (⟨y, z, (⟨D, E, A⟩ : S76), I, B⟩ : S79)) (k79_mkM _ _ _ (⟨y, z, (⟨D, E, A⟩ : S76), I, B⟩ : S79) (Kd.R_mono (Kd.R_apart' (q0.out) (Kd.R_typed l.out) (by decide)) (fun k_ hk => ⟨trivial, fun e_ => (hk.2) (by rw [e_]; rfl)⟩)) (Kd.R_mono (Kd.R_apart' ((Kd.S_R s0.out)) (Kd.R_typed l.out) (by decide)) (fun k_ hk => ⟨trivial, fun e_ => (hk.2) (by rw [e_]; rfl)⟩)) (Kd.R_mono (Kd.R_apart' (t0.out) (Kd.R_typed l.out) (by decide)) (fun k_ hk => ⟨trivial, fun e_ => (hk.2) (by rw [e_]; rfl)⟩)) (Kd.R_mono (Kd.R_apart' (x0.out) (Kd.R_typed l.out) (by decide)) (fun k_ hk => ⟨trivial, fun e_ => (hk.2) (by rw [e_]; rfl)⟩))) (fun _ hk => hk); have C1 := hcc16 0 _ rfl; (try simp only [show (k79).sz = 7 from rfl, Nat.mul_one, Nat.add_zero] at C1); have hf16_0 := hfr16 0; (try simp only [show (k79).sz = 7 from rfl, Nat.mul_one, Nat.add_zero] at hf16_0); have D1 := hcc16 1 _ rfl; (try simp only [show (k79).sz = 7 from rfl, Nat.mul_one, Nat.add_zero] at D1); have hf16_1 := hfr16 1; (try simp only [show (k79).sz = 7 from rfl, Nat.mul_one, Nat.add_zero] at hf16_1); have E1 := hcc16 2 _ rfl; (try simp only [show (k79).sz = 7 from rfl, Nat.mul_one, Nat.add_zero] at E1); have hf16_2 := hfr16 2; (try simp only [show (k79).sz = 7 from rfl, Nat.mul_one, Nat.add_zero] at hf16_2); have F1 := hcc16 3 _ rfl; (try simp only [show (k79).sz = 7 from rfl, Nat.mul_one, Nat.add_zero] at F1); have hf16_3 := hfr16 3; (try simp only [show (k79).sz = 7 from rfl, Nat.mul_one, Nat.add_zero] at hf16_3); have G1 := hcc16 4 _ rfl; (try simp only [show (k79).sz = 7 from rfl, Nat.mul_one, Nat.add_zero] at G1); have hf16_4 := hfr16 4; (try simp only [show (k79).sz = 7 from rfl, Nat.mul_one, Nat.add_zero] at hf16_4); have I1 := hcc16 5 _ rfl; (try simp only [show (k79).sz = 7 from rfl, Nat.mul_one, Nat.add_zero] at I1); have hf16_5 := hfr16 5; (try simp only [show (k79).sz = 7 from rfl, Nat.mul_one, Nat.add_zero] at hf16_5); have J1 := hcc16 6 _ rfl; (try simp only [show (k79).sz = 7 from rfl, Nat.mul_one, Nat.add_zero] at J1); have hf16_6 := hfr16 6; (try simp only [show (k79).sz = 7 from rfl, Nat.mul_one, Nat.add_zero] at hf16_6); clear hcl16 hcc16 hfr16 hM16) | ((with_reducible refine gate_store (t := 79) (p := 21) rfl ?_); refine store_event (t := 79) (p := 21) (v := ?vo_w17) (w1 := (((((((x.setCell ⟨go10, (a : Int).toNat * 7, none⟩ (.slice O0 y.length R0)).setCell ⟨go10, (a : Int).toNat * 7 + 1, none⟩ (.slice M0 z.length N0)).setCell ⟨go10, (a : Int).toNat * 7 + 2, none⟩ (.int .i64 D)).setCell ⟨go10, (a : Int).toNat * 7 + 3, none⟩ (.int .i64 E)).setCell ⟨go10, (a : Int).toNat * 7 + 4, none⟩ (.slice J0 A.length L0)).setCell ⟨go10, (a : Int).toNat * 7 + 5, none⟩ (.bool I)).setCell ⟨go10, (a : Int).toNat * 7 + 6, none⟩ (.slice G0 B.length I0))) ?hg ?ho ?hn ?hr ?_; (case ho => rfl); (case hg => rfl); (case hn => rfl); (case hr => first | (go_simp; done) | (go_simp; rfl)); intro L1 hw; have hg : x.grownBy L1 (some go10) := (by rw [hw]; exact HP16.2); have hp_ : Kd.R k79 79 L1 w.heap.size (fun _ => True) (.slice (some ⟨go10, 0, none⟩) u.length y1) D0 := (by rw [hw, Ny340.out]; exact HP16.1); clear HP16; have B0 := zK (hp_); have C0 := zK ((by rw [hw]; exact zs (zs (zs (zs (zs (zs (zs (HB.out) GB10.out) GB10.out) GB10.out) GB10.out) GB10.out) GB10.out) GB10.out : Below w.heap.size w L1)); revert B0 C0; clear l HB q0 s0 t0 x0; intro l HB; clear hg hw hp_))
 go_roundg k1
 case measure => have := T1.out; omega
 case rel => exact ⟨(D0), (wrap64 (a + 1)), zR, H', ⟨by have := T1.out; omega⟩, ⟨zkR l⟩, ⟨zB⟩⟩
end Go.Proofs.Ytmcboiffbcnalaa.PFnExactPlanOk
