-- Printed out of the translation by this session's own turned copy of a printer; Lean checks it.
import Derived.Test.YtmcboiffbcnalaaPFnExactPlanOkx0
import Derived.Test.YtmcboiffbcnalaaPFnExactPlanOkx6
import Derived.Test.YtmcboiffbcnalaaPFnExactPlanOkx8
namespace Go.Proofs.Ytmcboiffbcnalaa.PFnExactPlanOk
open Go.RowKit Go.Proofs.YtmcboiffbcnalaaW.PrintWords Go.Proofs.YtmcboiffbcnalaaW.PrintLast Go.Proofs.YtmcboiffbcnalaaW.PrintMore
attribute [local go_sem] max2_int min2_int max_two min_two max_three min_three max_four min_four
set_option linter.unusedVariables false
set_option linter.unusedSimpArgs false
set_option maxHeartbeats 8000000
set_option maxRecDepth 100000
def spec_Lives.l0 : Nat → List (S52) → Int → List Int → List Int → List (S71) → List (S79) → List Int → Option ((List (S52)))
 | 0, _, _, _, _, _, _, _ => none
 | k + 1, z, A, a, q, u, x, y => if A < (a.length : Int) then ((spec_l12Life.f k a q u x y A).bind fun l => (if l.2.2.2.2 = true then (if z.length < 4398046511104 then (spec_Lives.l0 k (z ++ [(⟨l.1, l.2.1, l.2.2.1, l.2.2.2.1⟩ : S52)]) (wrap64 (A + 1)) a q u x y) else (none)) else (spec_Lives.l0 k z (wrap64 (A + 1)) a q u x y))) else (some z)
def spec_Lives.f (k : Nat) (a : List Int) (l : List Int) (q : List (S71)) (u : List (S79)) (x : List Int) : Option ((List (S52))) := (some (([] : List (S52)) : List (S52))).bind fun y => ((spec_NestOk.f k a l q u x).bind fun z => (if z = true then (spec_Lives.l0 k y 0 a l q u x) else (some y)))
theorem spec_Lives.calls (k) (X) (a0) (l : List Int) (b0) (c0) (q : List Int) (d0) (e0) (u : List (S71)) (f0) (g0) (x : List (S79)) (i0) (j0) (y : List Int) (r : List (S52)) (w) (N0 : Kd.C (Kd.int .i64) w X l.length l) (O0 : l.length ≤ a0) (R0 : Kd.C (Kd.int .i64) w b0 q.length q) (S0 : q.length ≤ c0) (T0 : Kd.C k71 w d0 u.length u) (U0 : u.length ≤ e0) (V0 : Kd.C k79 w f0 x.length x) (X0 : x.length ≤ g0) (a1 : Kd.C (Kd.int .i64) w i0 y.length y) (b1 : y.length ≤ j0) (h : spec_Lives.f k l q u x y = some r) :
 Calls Try.prog 11 #[.agg #[.slice X l.length a0, .slice b0 q.length c0, .slice d0 u.length e0, .slice f0 x.length g0, .slice i0 y.length j0]] w fun e w' => ∃ v0_ : Value, e = .returned (v0_) ∧ Kd.R k52 52 w' w.heap.size (fun _ => True) v0_ r ∧ Below w.heap.size w w' := by
 have p3 := Try.underlying34
 have q3 := Try.underlying52
 have A0 := zK N0
 have B0 := zK O0
 clear N0 O0
 have C0 := zK R0
 have D0 := zK S0
 clear R0 S0
 have E0 := zK T0
 have F0 := zK U0
 clear T0 U0
 have G0 := zK V0
 have I0 := zK X0
 clear V0 X0
 have J0 := zK a1
 have L0 := zK b1
 clear a1 b1
 have HB := zK (Below.refl w.heap.size w)
 have H : ((some (([] : List (S52)) : List (S52))).bind fun s0 => ((spec_NestOk.f k l q u x y).bind fun t0 => (if t0 = true then (spec_Lives.l0 k s0 0 l q u x y) else (some s0)))) = some r := h
 clear h
 obtain ⟨s0, o0⟩ : ∃ y_ : List (S52), y_ = (([] : List (S52))) := ⟨_, rfl⟩
 replace H : ((spec_NestOk.f k l q u x y).bind fun t0 => (if t0 = true then (spec_Lives.l0 k s0 0 l q u x y) else (some s0))) = some r := by first | (rw [o0]; with_reducible exact H) | (have x0 := (Option.bind_some _ _).symm.trans H; rw [o0]; with_reducible exact x0) | (have x0 := (Option.bind_some _ _).symm.trans H; with_reducible exact x0) | with_reducible exact H | (rw [o0]; exact H) | exact H
 have Ny205 := zK o0
 clear o0
 replace H := z6 H
 obtain ⟨t0, M1, H⟩ := H
 have A2 := zK M1
 clear M1
 rcases zN (t0 = true) with c3 | c3
 replace c3 := Bool.eq_false_iff.mpr c3
 subst c3
 rw [if_neg (show ¬ (false = true) by decide)] at H
 obtain rfl := z5 H
 rotate_left
 subst c3
 rw [if_pos rfl] at H
 have H' := zK H
 clear H
 all_goals go_enter Try.func11, Try.ntmps11
 all_goals go_wp2_with (first | ((with_reducible refine gd 1 rfl ?_); refine zJ 1 #[.slice X l.length a0, .slice b0 q.length c0, .slice d0 u.length e0, .slice f0 x.length g0, .slice i0 y.length j0] 34 ?_; intro d1 hg w4 hbox hb; have B := z8 hb; have D := zK (hbox); have E := z9 hg; have y0 := z9 hg; revert B D E y0; clear HB; intro HB a i3 j3; clear hb hbox hg) | ((with_reducible refine gd 7 rfl ?_); refine Kd.R_lit k52 _ 52 ?hg (N := 7) ?hd (xs := ([] : List (S52))) (inner := []) (ok := fun _ => True) (okp := fun _ => True) ?hr ?hp (fun _ hk => hk) trivial (Below.refl _ _) (Nat.le_refl _) (by simp) ?_; (case hd => rfl); (case hg => rfl); (case hr => first | (go_simp; done) | (go_simp; rfl)); (case hp => exact (Reps.none _ _)); intro v206 w5 M0 hb hg_ hnew_; clear hg_ hnew_; (first | rw [← Ny205.out] at M0 | (simp only [Int.reduceToNat] at M0; rw [← Ny205.out] at M0)); have B := zK (Kd.R_lower M0 (zz zB)); have D := z7 a hb; have E := z8 hb; revert B D E; clear a HB; intro p0 a HB; clear hb M0; obtain ⟨l1, m1, n1, o1, p1, q1, s1, t1, x1, y1⟩ := zc5 a) | ((with_reducible refine gc 20 rfl ?_); refine zF 9 Try.func20 #[.agg #[.slice X l.length a0, .slice b0 q.length c0, .slice d0 u.length e0, .slice f0 x.length g0, .slice i0 y.length j0]] rfl zL ?_; refine (spec_NestOk.calls k _ _ l _ _ q _ _ u _ _ x _ _ y _ _ (zS A0) B0.out (zS C0) D0.out (zS E0) F0.out (zS G0) I0.out (zS J0) L0.out A2.out).mono ?_; rintro e w8 ⟨rfl, hb⟩; refine ⟨_, rfl, ?_⟩; have B := zK (Kd.R_below (zkR p0) hb); have D := z7 a hb; have E := z8 hb; revert B D E; clear p0 a HB; intro p0 a HB))
 · go_loopg [3, 4] k (fun kq v3 v4 w' => ∃ (J : List (S52)) (A : Int), v4 = .int .i64 A ∧ Aside0 (spec_Lives.l0 kq J A l q u x y = some r) ∧ Aside0 (kq ≤ k) ∧ Aside0 (Kd.R k52 52 w' w.heap.size (fun _ => True) v3 J) ∧ Aside0 (w'.heap[d1]? = some (.cells #[(.slice X l.length a0), (.slice b0 q.length c0), (.slice d0 u.length e0), (.slice f0 x.length g0), (.slice i0 y.length j0)] 34 (0, 0))) ∧ Aside0 (Below w.heap.size w w'))
   case atStart => exact ⟨(s0), (0), zR, H', ⟨Nat.le_refl _⟩, ⟨zkR p0⟩, ⟨zM a⟩, ⟨zB⟩⟩
   clear H'
   try clear c1
   try clear c2
   try clear p2
   try clear c3
   try clear l1 m1 n1 o1 p1 q1 s1 t1 x1 y1
   obtain ⟨J, A, rfl, HA, e1, z, a, HB⟩ := hrel
   rcases gk with _ | k1
   · exact absurd HA.out (by simp [spec_Lives.l0])
   have H := HA.out
   clear HA
   simp only [spec_Lives.l0] at H
   by_cases c9 : A < (l.length : Int)
   rotate_left
   · rw [if_neg c9] at H
     have O1 := z2 c9
     clear c9
     obtain rfl := z5 H
     obtain ⟨R1, S1, T1, U1, V1, X1, a2, b2, d2, e2⟩ := zc5 a
     go_wp2
     go_ret
     exact ⟨_, zE, zkR z, zB⟩
   rw [if_pos c9] at H
   have O1 := z1 c9
   clear c9
   replace H := z6 H
   obtain ⟨⟨L, M, O, T, A1⟩, B1, H⟩ := H
   replace H : (if A1 = true then (if J.length < 4398046511104 then (spec_Lives.l0 k1 (J ++ [(⟨L, M, O, T⟩ : S52)]) (wrap64 (A + 1)) l q u x y) else (none)) else (spec_Lives.l0 k1 J (wrap64 (A + 1)) l q u x y)) = some r := H
   have N1 := zK B1
   clear B1
   by_cases f1 : A1 = true
   rotate_left
   · replace f1 := Bool.eq_false_iff.mpr f1
     subst f1
     rw [if_neg (show ¬ (false = true) by decide)] at H
     have H' := zK H
     clear H
     obtain ⟨f2, g2, i2, j2, l2, m2, n2, o2, q2, s2⟩ := zc5 a
     go_wp2_with (first | ((with_reducible refine gc 21 rfl ?_); refine zF 22 Try.func21 #[.agg #[.slice X l.length a0, .slice b0 q.length c0, .slice d0 u.length e0, .slice f0 x.length g0, .slice i0 y.length j0], .int .i64 A] rfl zL ?_; refine (spec_l12Life.calls k1 _ _ l _ _ q _ _ u _ _ x _ _ y A L M O T false _ (zS A0) B0.out (zS C0) D0.out (zS E0) F0.out (zS G0) I0.out (zS J0) L0.out N1.out).mono ?_; rintro e t3 ⟨rfl, hb⟩; refine ⟨_, rfl, ?_⟩; have B := zK (Kd.R_below (zkR z) hb); have D := z7 a hb; have E := z8 hb; revert B D E; clear z a HB; intro z a HB) | ((with_reducible refine gd 5 rfl ?_); refine zJ 5 #[.int .i64 0, .int .i64 0, .int .i64 0, .int .i64 0] 52 ?_; intro I hg x3 hbox hb; have B := zK (Kd.R_below (Kd.R_elderB (zkR z) I (Nat.le_of_eq hg.symm)) hb); have D := z7 a hb; have E := z8 hb; have y0 := zK (hbox); have C1 := z9 hg; have D1 := z9 hg; have E1 := zHH hg a; have F1 := zGG hg a; revert B D E y0 C1 D1 E1 F1; clear z a HB; intro z a HB U I1 J1 m0 n0; clear hb hbox hg; have l3 := n0.out; have m3 := m0.out; obtain ⟨t2, x2, y2, B2, C2, D2, E2, F2⟩ := zc4 U))
     go_roundg k1
     case measure => have := e1.out; omega
     case rel => exact ⟨(J), (wrap64 (A + 1)), zR, H', ⟨by have := e1.out; omega⟩, ⟨Kd.R_mono (zlR (Kd.R_mono z.out (fun k_ hk => (⟨hk, hk.2⟩ : _ ∧ k_ ≠ I)))) (fun _ hk => trivial)⟩, ⟨zV a⟩, ⟨zB⟩⟩
   subst f1
   rw [if_pos rfl] at H
   by_cases g1 : J.length < 4398046511104
   rotate_left
   · rw [if_neg g1] at H
     exact absurd H (by simp)
   rw [if_pos g1] at H
   have LMc12 := zK g1
   clear g1
   obtain ⟨G1, q0⟩ : ∃ y_ : List (S52), y_ = (J ++ [(⟨L, M, O, T⟩ : S52)]) := ⟨_, rfl⟩
   replace H : (spec_Lives.l0 k1 G1 (wrap64 (A + 1)) l q u x y) = some r := by first | (rw [q0]; with_reducible exact H) | (have x0 := (Option.bind_some _ _).symm.trans H; rw [q0]; with_reducible exact x0) | (have x0 := (Option.bind_some _ _).symm.trans H; with_reducible exact x0) | with_reducible exact H | (rw [q0]; exact H) | exact H
   have Ny215 := zK q0
   clear q0
   have H' := zK H
   clear H
   obtain ⟨G2, I2, J2, L2, M2, N2, O2, R2, T2, U2⟩ := zc5 a
   go_wp2_with (first | ((with_reducible refine gc 21 rfl ?_); refine zF 22 Try.func21 #[.agg #[.slice X l.length a0, .slice b0 q.length c0, .slice d0 u.length e0, .slice f0 x.length g0, .slice i0 y.length j0], .int .i64 A] rfl zL ?_; refine (spec_l12Life.calls k1 _ _ l _ _ q _ _ u _ _ x _ _ y A L M O T true _ (zS A0) B0.out (zS C0) D0.out (zS E0) F0.out (zS G0) I0.out (zS J0) L0.out N1.out).mono ?_; rintro e y3 ⟨rfl, hb⟩; refine ⟨_, rfl, ?_⟩; have B := zK (Kd.R_below (zkR z) hb); have D := z7 a hb; have E := z8 hb; revert B D E; clear z a HB; intro z a HB) | ((with_reducible refine gd 5 rfl ?_); refine zJ 5 #[.int .i64 0, .int .i64 0, .int .i64 0, .int .i64 0] 52 ?_; intro I hg A3 hbox hb; have B := zK (Kd.R_below (Kd.R_elderB (zkR z) I (Nat.le_of_eq hg.symm)) hb); have D := z7 a hb; have E := z8 hb; have y0 := zK (hbox); have C1 := z9 hg; have D1 := z9 hg; have E1 := zHH hg a; have F1 := zGG hg a; revert B D E y0 C1 D1 E1 F1; clear z a HB; intro z a HB U I1 J1 m0 n0; clear hb hbox hg; have n3 := n0.out; have o3 := m0.out; obtain ⟨V2, X2, a3, b3, d3, e3, f3, g3⟩ := zc4 U) | ((with_reducible refine gate_builtin (b := .append) (xs := #[.tmp 26, .tmp 28]) rfl ?_); at_builtin; refine Kd.R_append k52 (w0 := w) w.heap.size rfl (.tmp 26) (.tmp 28) 41 52 (.agg #[(.int .i64 0), (.int .i64 0), (.int .i64 0), (.int .i64 0)]) 32 rfl Try.underlying41 info52 rfl (by decide) (by omega) u3 J (⟨L, M, O, T⟩ : S52) [.int .i64 L, .int .i64 M, .int .i64 O, .int .i64 T] (fun k_ => k_ ≠ I) (fun _ => False) rfl (by first | (go_simp; done) | (go_simp; rfl)) ?aP (fun _ hk => hk.elim) ?aF ?aO ?aB ?aS ?aL ?_; (case aP => exact k52_mkM _ _ _ (⟨L, M, O, T⟩ : S52)); (case aB => exact zB); (case aF => exact (fun k_ hk => Kd.freshB (g := I) (o := .cells #[.int .i64 L, .int .i64 M, .int .i64 O, .int .i64 T] 52 (0, 0)) (zW U) k_ hk)); (case aO => exact (Kd.R_mono (zlR (Kd.R_mono z.out (fun k_ hk => (⟨hk, hk.2⟩ : _ ∧ k_ ≠ I)))) (fun _ hk => hk.1.2))); (case aS => exact (zz zB)); (case aL => have := LMc12.out; omega); intro v216 B3 ho hb hg hat; rw [← Ny215.out] at ho; have B := zK (blk_grown (g := d1) (o := .cells #[.slice X l.length a0, .slice b0 q.length c0, .slice d0 u.length e0, .slice f0 x.length g0, .slice i0 y.length j0] 34 (0, 0)) (zV a) hg (Kd.R_ne z.out a.out (by decide))); have D := zK (blk_grown (g := I) (o := .cells #[.int .i64 L, .int .i64 M, .int .i64 O, .int .i64 T] 52 (0, 0)) (zW U) hg (Kd.R_away z.out (fun _ hk => hk.2))); have E := zK (hb); have y0 := zK (ho); revert B D E y0; clear a U HB z; intro a U HB L1; clear ho hb hg hat))
   go_roundg k1
   case measure => have := e1.out; omega
   case rel => exact ⟨(G1), (wrap64 (A + 1)), zR, H', ⟨by have := e1.out; omega⟩, ⟨Kd.R_mono (zlR L1.out) (fun _ hk => trivial)⟩, ⟨zM a⟩, ⟨zB⟩⟩
 all_goals go_ret
 all_goals exact ⟨_, zE, zkR p0, zB⟩
mutual
def spec_l12Ok.l0 : Nat → List (S52) → Int → Option (Bool)
 | 0, _, _ => none
 | k + 1, l, a => if a < (l.length : Int) then (if 0 ≤ a then (if ((rd_T52 l a).f1) < 1 then (spec_l12Ok.j1 k l a true) else (if ((rd_T52 l a).f1) > 4096 then (spec_l12Ok.j1 k l a true) else (if ((rd_T52 l a).f2) < 0 then (spec_l12Ok.j1 k l a true) else (if ((rd_T52 l a).f2) > ((rd_T52 l a).f3) then (spec_l12Ok.j1 k l a true) else (spec_l12Ok.j1 k l a (decide (((rd_T52 l a).f3) > 400))))))) else (none)) else (some true)
def spec_l12Ok.j1 : Nat → List (S52) → Int → Bool → Option (Bool)
 | 0, _, _, _ => none
 | k + 1, l, q, a => if a = true then (some false) else (spec_l12Ok.l0 k l (wrap64 (q + 1)))
end
def spec_l12Ok.f (k : Nat) (a : List (S52)) : Option (Bool) := if (a.length : Int) > 200 then (some false) else (spec_l12Ok.l0 k a 0)
theorem spec_l12Ok.calls (k) (A0) (c0) (q : List (S52)) (r : Bool) (w) (I1 : Kd.C k52 w A0 q.length q) (J1 : q.length ≤ c0) (h : spec_l12Ok.f k q = some r) :
 Calls Try.prog 45 #[.slice A0 q.length c0] w fun e w' => e = .returned (.bool r) ∧ Below w.heap.size w w' := by
 have i2 := Try.underlying52
 have S1 := zK I1
 have j2 := zK J1
 clear I1 J1
 have HB := zK (Below.refl w.heap.size w)
 have H : (if (q.length : Int) > 200 then (some false) else (spec_l12Ok.l0 k q 0)) = some r := h
 clear h
 by_cases O : (q.length : Int) > 200
 · rw [if_pos O] at H
   have T := z1 O
   have U : decide (200 < q.length) = true := z1 (by omega)
   clear O
   obtain rfl := z5 H
   go_enter Try.func45, Try.ntmps45
   go_wp2
   go_ret
   exact ⟨zE, zB⟩
 rw [if_neg O] at H
 have T := z2 O
 have U : decide (200 < q.length) = false := z2 (by omega)
 clear O
 have H' := zK H
 clear H
 go_enter Try.func45, Try.ntmps45
 go_wp2
 go_loopg [3] k (fun kq v3 w' => ∃ (a : Int), v3 = .int .i64 a ∧ Aside0 (spec_l12Ok.l0 kq q a = some r) ∧ Aside0 (kq ≤ k) ∧ Aside0 (Below w.heap.size w w'))
 case atStart => exact ⟨(0), zR, H', ⟨Nat.le_refl _⟩, ⟨zB⟩⟩
 clear H'
 try clear O
 try clear T
 try clear U
 try clear p2
 obtain ⟨a, rfl, HA, D, HB⟩ := hrel
 rcases gk with _ | k1
 · exact absurd HA.out (by simp [spec_l12Ok.l0])
 have H := HA.out
 clear HA
 simp only [spec_l12Ok.l0] at H
 by_cases X : a < (q.length : Int)
 rotate_left
 · rw [if_neg X] at H
   have e1 := z2 X
   clear X
   obtain rfl := z5 H
   go_wp2
   go_ret
   exact ⟨zE, zB⟩
 rw [if_pos X] at H
 have e1 := z1 X
 clear X
 by_cases c4 : 0 ≤ a
 rotate_left
 · rw [if_neg c4] at H
   exact absurd H (by simp)
 rw [if_pos c4] at H
 have M1 := z1 c4
 clear c4
 have i1 := zK H
 clear H
 have L : 0 ≤ (a : Int) := z3
 have M : a < (q.length : Int) := z3
 obtain ⟨d2, N1, u, x, y, z⟩ := at_T52 S1.out a L M
 cases N1
 (try replace u := zX HB u)
 (try replace x := zX HB x)
 (try replace y := zX HB y)
 (try replace z := zX HB z)
 replace L := eq_true L
 replace M := eq_true M
 go_upto_region 7 with (first | ((with_reducible refine gd 4 rfl ?_); refine zJ 4 #[.int .i64 0, .int .i64 0, .int .i64 0, .int .i64 0] 52 ?_; intro G1 hg w6 hbox hb; have U1 := z8 hb; have V1 := zK (hbox); have X1 := z9 hg; have a2 := z9 hg; revert U1 V1 X1 a2; clear HB; intro HB l e2 g2; clear hb hbox hg; obtain ⟨l1, m1, n1, o1, p1, q1, s1, t1⟩ := zc4 l))
 (try simp only [Act.put, zq1, zq2, zq3])
 go_cut [42] (fun v42 wc => ∃ (kq : Nat) (B : Bool), v42 = .bool B ∧ Aside0 (spec_l12Ok.j1 kq q a B = some r) ∧ Aside0 (kq ≤ k1) ∧ Aside0 (wc.heap[G1]? = some (.cells #[.int .i64 ((rd_T52 q a).f0), .int .i64 ((rd_T52 q a).f1), .int .i64 ((rd_T52 q a).f2), .int .i64 ((rd_T52 q a).f3)] 52 (0, 0))) ∧ Aside0 (Below w.heap.size w wc))
 case first =>
  have H := i1.out
  clear i1
  by_cases c8 : ((rd_T52 q a).f1) < 1
  · rw [if_pos c8] at H
    have A := z1 c8
    clear c8
    (first | rw [A] | (simp only [i64_w, i32_w]; rw [A]) | skip)
    have H' := zK H
    clear H
    obtain ⟨x1, y1, A1, B1, C1, D1, E1, F1⟩ := zc4 l
    go_wp2
    go_meet
    case rel => exact ⟨_, (true), zR, H', ⟨by have := D.out; first | omega | exact Nat.le_refl _⟩, ⟨zW l⟩, ⟨zB⟩⟩
  rw [if_neg c8] at H
  have A := z2 c8
  clear c8
  (first | rw [A] | (simp only [i64_w, i32_w]; rw [A]) | skip)
  by_cases E : ((rd_T52 q a).f1) > 4096
  · rw [if_pos E] at H
    have b0 := z1 E
    clear E
    have H' := zK H
    clear H
    obtain ⟨i0, j0, m0, n0, o0, p0, q0, s0⟩ := zc4 l
    go_wp2
    go_meet
    case rel => exact ⟨_, (true), zR, H', ⟨by have := D.out; first | omega | exact Nat.le_refl _⟩, ⟨zW l⟩, ⟨zB⟩⟩
  rw [if_neg E] at H
  have b0 := z2 E
  clear E
  by_cases I : ((rd_T52 q a).f2) < 0
  · rw [if_pos I] at H
    have d0 := z1 I
    clear I
    have H' := zK H
    clear H
    obtain ⟨t0, x0, y0, B0, C0, D0, E0, F0⟩ := zc4 l
    go_wp2
    go_meet
    case rel => exact ⟨_, (true), zR, H', ⟨by have := D.out; first | omega | exact Nat.le_refl _⟩, ⟨zW l⟩, ⟨zB⟩⟩
  rw [if_neg I] at H
  have d0 := z2 I
  clear I
  by_cases J : ((rd_T52 q a).f2) > ((rd_T52 q a).f3)
  · rw [if_pos J] at H
    have e0 := z1 J
    clear J
    have H' := zK H
    clear H
    obtain ⟨G0, I0, J0, L0, M0, N0, O0, R0⟩ := zc4 l
    go_wp2
    go_meet
    case rel => exact ⟨_, (true), zR, H', ⟨by have := D.out; first | omega | exact Nat.le_refl _⟩, ⟨zW l⟩, ⟨zB⟩⟩
  rw [if_neg J] at H
  have e0 := z2 J
  clear J
  have H' := zK H
  clear H
  obtain ⟨S0, T0, U0, V0, X0, a1, b1, d1⟩ := zc4 l
  go_wp2
  go_meet
  case rel => exact ⟨_, (decide (((rd_T52 q a).f3) > 400)), zR, H', ⟨by have := D.out; first | omega | exact Nat.le_refl _⟩, ⟨zW l⟩, ⟨zB⟩⟩
 case rest =>
  clear i1
  try clear c1
  try clear O
  try clear T
  try clear U
  try clear p2
  try clear q2
  try clear l2
  try clear X
  try clear e1
  try clear c4
  try clear M1
  try clear c8
  try clear A
  try clear E
  try clear b0
  try clear I
  try clear d0
  try clear J
  try clear e0
  try clear i0 j0 m0 n0 o0 p0 q0 s0
  try clear t0 x0 y0 B0 C0 D0 E0 F0
  try clear G0 I0 J0 L0 M0 N0 O0 R0
  try clear S0 T0 U0 V0 X0 a1 b1 d1
  try clear l1 m1 n1 o1 p1 q1 s1 t1
  try clear x1 y1 A1 B1 C1 D1 E1 F1
  try clear u
  try clear x
  try clear y
  try clear z
  try clear p2
  try clear L
  try clear M
  obtain ⟨kq, B, rfl, HA, L1, l, HB⟩ := hcut
  cases kq with
  | zero => exact absurd HA.out (by simp [spec_l12Ok.j1])
  | succ b2 =>
   have H := HA.out
   clear HA
   simp only [spec_l12Ok.j1] at H
   by_cases g0 : B = true
   · subst g0
     rw [if_pos rfl] at H
     obtain rfl := z5 H
     go_wp2
     go_ret
     exact ⟨zE, zB⟩
   replace g0 := Bool.eq_false_iff.mpr g0
   subst g0
   rw [if_neg (show ¬ (false = true) by decide)] at H
   have H' := zK H
   clear H
   go_wp2
   go_roundg b2
   case measure => have := D.out; have := L1.out; omega
   case rel => exact ⟨(wrap64 (a + 1)), zR, H', ⟨by have := D.out; have := L1.out; omega⟩, ⟨zB⟩⟩
def spec_l12Meet.f (x : Int) (y : Int) (a : Int) (l : Int) (z : Int) (A : Int) (q : Int) (u : Int) : Option (Bool) := if a ≤ u then (some (decide (q ≤ l))) else (some false)
theorem spec_l12Meet.calls (A) (B) (l) (u) (D) (E) (x) (q) (r : Bool) (w) (h : spec_l12Meet.f A B l u D E x q = some r) :
 Calls Try.prog 64 #[.agg #[.int .i64 A, .int .i64 B, .int .i64 l, .int .i64 u], .agg #[.int .i64 D, .int .i64 E, .int .i64 x, .int .i64 q]] w fun e w' => e = .returned (.bool r) ∧ Below w.heap.size w w' := by
 have I0 := Try.underlying52
 have HB := zK (Below.refl w.heap.size w)
 have H : (if l ≤ q then (some (decide (x ≤ u))) else (some false)) = some r := h
 clear h
 by_cases I : l ≤ q
 rw [if_pos I] at H
 have U := z1 I
 clear I
 obtain rfl := z5 H
 rotate_left
 rw [if_neg I] at H
 have U := z2 I
 clear I
 obtain rfl := z5 H
 all_goals go_enter Try.func64, Try.ntmps64
 all_goals go_wp2_with (first | ((with_reducible refine gd 2 rfl ?_); refine zJ 2 #[.int .i64 A, .int .i64 B, .int .i64 l, .int .i64 u] 52 ?_; intro y0 hg w9 hbox hb; have J := z8 hb; have L := zK (hbox); have M := z9 hg; have O := z9 hg; revert J L M O; clear HB; intro HB a A0 B0; clear hb hbox hg) | ((with_reducible refine gd 3 rfl ?_); refine zJ 3 #[.int .i64 D, .int .i64 E, .int .i64 x, .int .i64 q] 52 ?_; intro C0 hg J0 hbox hb; have J := z7 a hb; have L := z8 hb; have M := zK (hbox); have O := z9 hg; have s0 := z9 hg; have t0 := zHH hg a; have x0 := zGG hg a; revert J L M O s0 t0 x0; clear a HB; intro a HB T D0 E0 y z; clear hb hbox hg; have F0 := y.out; have G0 := z.out; obtain ⟨X, a0, b0, c0, d0, e0, f0, g0⟩ := zc4 a; obtain ⟨i0, j0, l0, m0, n0, o0, p0, q0⟩ := zc4 T))
 all_goals go_ret
 all_goals exact ⟨zE, zB⟩
end Go.Proofs.Ytmcboiffbcnalaa.PFnExactPlanOk
